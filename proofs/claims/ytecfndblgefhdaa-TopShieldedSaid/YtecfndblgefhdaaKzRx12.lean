import Derived.Test.YtecfndblgefhdaaKzRx11
namespace Go.Proofs.Ytecfndblgefhdaa.R
open Go.RowKit Go.Proofs.YtecfndblgefhdaaW.PrintWords Go.Proofs.YtecfndblgefhdaaW.PrintLast Go.Proofs.YtecfndblgefhdaaW.PrintMore
attribute [local go_sem] max2_int min2_int max_two min_two max_three min_three max_four min_four
set_option linter.unusedVariables false
set_option linter.unusedSimpArgs false
def queue_All.l0 : Nat → List (S120) → List (S51) → Int → Int → List (S51) → List (S120) → Int → Int → Option ((List (S120)))
 | 0, _, _, _, _, _, _, _, _ => none
 | k + 1, x3, x10, x11, x12, x224000, x224001, x224002, x224003 => if x12 < x11 then (if 0 ≤ x12 then (if x12 < (x10.length : Int) then ((fold_Merge.f k x3 ((rd_T51 x10 x12).f2)).bind fun t227 => (queue_All.l0 k t227 x10 x11 (wrap64 (x12 + 1)) x224000 x224001 x224002 x224003)) else (none)) else (none)) else ((fold_Merge.f k x3 x224001).bind fun t230 => (some t230))
def queue_All.f (k : Nat) (l0_0 : List (S51)) (l0_1 : List (S120)) (a0_2 : Int) (a0_3 : Int) : Option ((List (S120))) := (queue_Right.f k l0_0 l0_1 a0_2 a0_3).bind fun t224 => (if t224 = true then (queue_All.l0 k ([] : List (S120)) l0_0 (l0_0.length : Int) 0 l0_0 l0_1 a0_2 a0_3) else (some ([] : List (S120))))
set_option maxHeartbeats 8000000 in
set_option maxRecDepth 100000 in
theorem queue_All.calls (k : Nat) (A0_0 : Option Addr) (c0_0 : Nat) (l0_0 : List (S51)) (A0_1 : Option Addr) (c0_1 : Nat) (l0_1 : List (S120)) (a0_2 : Int) (a0_3 : Int) (r : List (S120)) (w : World) (hr0_0 : Kd.C k51 w A0_0 l0_0.length l0_0) (hc0_0 : l0_0.length ≤ c0_0) (hr0_1 : Kd.C k120 w A0_1 l0_1.length l0_1) (hc0_1 : l0_1.length ≤ c0_1) (h : queue_All.f k l0_0 l0_1 a0_2 a0_3 = some r) :
  Calls Try.prog 23 #[.agg #[.slice A0_0 l0_0.length c0_0, .slice A0_1 l0_1.length c0_1, .int .i64 a0_2, .int .i64 a0_3]] w fun e w' => ∃ v0_ : Value, e = .returned (v0_) ∧ Kd.R k120 120 w' w.heap.size (fun _ => True) v0_ r ∧ Below w.heap.size w w' := by
 have hu68 := Try.underlying68
 have hu51 := Try.underlying51
 have HR0_0 := a0_ hr0_0
 have HC0_0 := a0_ hc0_0
 clear hr0_0 hc0_0
 have HR0_1 := a0_ hr0_1
 have HC0_1 := a0_ hc0_1
 clear hr0_1 hc0_1
 have HB := a0_ (Below.refl w.heap.size w)
 have H : ((queue_Right.f k l0_0 l0_1 a0_2 a0_3).bind fun t224 => (if t224 = true then (queue_All.l0 k ([] : List (S120)) l0_0 (l0_0.length : Int) 0 l0_0 l0_1 a0_2 a0_3) else (some ([] : List (S120))))) = some r := h
 clear h
 replace H := Option.bind_eq_some_iff.mp H
 obtain ⟨t224, A20, H⟩ := H
 try dsimp only at H
 have A2 := a0_ A20
 clear A20
 by_cases c3 : t224 = true
 ·subst c3
  rw [if_pos rfl] at H
  have H' := a0_ H
  clear H
  go_enter Try.func23, Try.ntmps23
  go_wp2_with (first | ((with_reducible refine gate_dst (N := 1) rfl ?_); refine box_event ?hg (N := 1) ?hd (cs := #[.slice A0_0 l0_0.length c0_0, .slice A0_1 l0_1.length c0_1, .int .i64 a0_2, .int .i64 a0_3]) (t := 68) ?hr ?_; (case hd => rfl); (case hg => rfl); (case hr => exact z11_); intro gb223 hg w4 hbox hb; have n0_ := a0_ (below_step z3_ hb); have n1_ := a0_ (hbox); have n2_ := a0_ ((z12_ : w.heap.size ≤ gb223)); have n3_ := a0_ ((z12_ : w.heap.size ≤ gb223)); clear HB; have HB := n0_; have BK223 := n1_; have GW223 := n2_; have GE223 := n3_; clear n0_ n1_ n2_ n3_; clear hb hbox hg; have hcz5_0 : w4.cell? ⟨gb223, 0, none⟩ = some (.slice A0_0 l0_0.length c0_0) := (blk_cell BK223.out 0).trans rfl; have hcz5_1 : w4.cell? ⟨gb223, 1, none⟩ = some (.slice A0_1 l0_1.length c0_1) := (blk_cell BK223.out 1).trans rfl; have hcz5_2 : w4.cell? ⟨gb223, 2, none⟩ = some (.int .i64 a0_2) := (blk_cell BK223.out 2).trans rfl; have hcz5_3 : w4.cell? ⟨gb223, 3, none⟩ = some (.int .i64 a0_3) := (blk_cell BK223.out 3).trans rfl; obtain ⟨hfz5_0, hfz5_1, hfz5_2, hfz5_3⟩ := bf4_ BK223.out) | ((with_reducible refine gate_callee (f := 51) rfl ?_); refine goesL_ (some 7) rfl rfl Try.func51 z6_ rfl #[.agg #[.slice A0_0 l0_0.length c0_0, .slice A0_1 l0_1.length c0_1, .int .i64 a0_2, .int .i64 a0_3]] rfl z16_ ?_; (with_reducible refine (queue_Right.calls k _ _ l0_0 _ _ l0_1 a0_2 a0_3 true _ ?side1 ?side2 ?side3 ?side4 A2.out).mono ?_); (case side1 => exact z50_); (case side2 => exact z51_); (case side3 => exact z52_); (case side4 => exact z53_); rintro e w6 ⟨rfl, hb⟩; refine ⟨_, rfl, ?_⟩; replace BK223 := a0_ (blk_below z121_ hb); replace HB := a0_ (below_step z122_ hb); (try clear hb); (try clear hb2); (try clear hk); (try clear hi); have hcz7_0 : w6.cell? ⟨gb223, 0, none⟩ = some (.slice A0_0 l0_0.length c0_0) := (blk_cell BK223.out 0).trans rfl; have hcz7_1 : w6.cell? ⟨gb223, 1, none⟩ = some (.slice A0_1 l0_1.length c0_1) := (blk_cell BK223.out 1).trans rfl; have hcz7_2 : w6.cell? ⟨gb223, 2, none⟩ = some (.int .i64 a0_2) := (blk_cell BK223.out 2).trans rfl; have hcz7_3 : w6.cell? ⟨gb223, 3, none⟩ = some (.int .i64 a0_3) := (blk_cell BK223.out 3).trans rfl; obtain ⟨hfz7_0, hfz7_1, hfz7_2, hfz7_3⟩ := bf4_ BK223.out))
  go_loopg [3, 12] k (fun kq v3 v12 w' => ∃ (x3_1 : List (S120)) (x12_1 : Int), v12 = .int .i64 x12_1 ∧ Aside0 (queue_All.l0 kq x3_1 l0_0 (l0_0.length : Int) x12_1 l0_0 l0_1 a0_2 a0_3 = some r) ∧ Aside0 (kq ≤ k) ∧ Aside0 (Kd.R k120 120 w' w.heap.size (fun _ => True) v3 x3_1) ∧ Aside0 (w'.heap[gb223]? = some (.cells #[(.slice A0_0 l0_0.length c0_0), (.slice A0_1 l0_1.length c0_1), .int .i64 a0_2, .int .i64 a0_3] 68 (0, 0))) ∧ Aside0 (Below w.heap.size w w'))
  case atStart => exact ⟨(([] : List (S120))), (0), z4_, H', ⟨Nat.le_refl _⟩, ⟨z27_⟩, ⟨z121_⟩, ⟨z122_⟩⟩
  case round =>
   clear H'
   obtain ⟨x3_1, x12_1, rfl, HA, HK1, HO_3, BK223, HB⟩ := hrel
   cases gk with
   | zero => exact absurd HA.out (by simp [queue_All.l0])
   | succ k1 =>
    have H := HA.out
    clear HA
    simp only [queue_All.l0] at H
    by_cases c8 : x12_1 < (l0_0.length : Int)
    ·rw [if_pos c8] at H
     have c8b0 : decide (x12_1 < (l0_0.length : Int)) = true := decide_eq_true c8
     clear c8
     by_cases c9 : 0 ≤ x12_1
     ·rw [if_pos c9] at H
      have c9b0 : decide (0 ≤ x12_1) = true := decide_eq_true c9
      clear c9
      by_cases c10 : x12_1 < (l0_0.length : Int)
      ·rw [if_pos c10] at H
       have c10b0 : decide (x12_1 < (l0_0.length : Int)) = true := decide_eq_true c10
       clear c10
       replace H := Option.bind_eq_some_iff.mp H
       obtain ⟨t227, A110, H⟩ := H
       try dsimp only at H
       have A11 := a0_ A110
       clear A110
       have H' := a0_ H
       clear H
       have p225 : 0 ≤ (x12_1 : Int) := of_decide_eq_true z10_
       have q225 : x12_1 < (l0_0.length : Int) := of_decide_eq_true z10_
       obtain ⟨ad225, A225_2, c225_2, e225, hx225_0, hx225_1, hx225_2, hl225_2, hi225_2⟩ := at_T51 HR0_0.out x12_1 p225 q225
       cases e225
       replace hx225_0 := (HB.out.cell (World.block_lt_of_cell? w _ hx225_0)).trans hx225_0
       replace hx225_1 := (HB.out.cell (World.block_lt_of_cell? w _ hx225_1)).trans hx225_1
       replace hx225_2 := (HB.out.cell (World.block_lt_of_cell? w _ hx225_2)).trans hx225_2
       have HR225_2 := a0_ hi225_2
       have HC225_2 := a0_ hl225_2
       clear hi225_2 hl225_2
       replace p225 := eq_true p225
       replace q225 := eq_true q225
       go_wp2_with (first | ((with_reducible refine gate_dst (N := 5) rfl ?_); refine box_event ?hg (N := 5) ?hd (cs := #[.int .i64 0, .int .i64 0, .slice none 0 0]) (t := 51) ?hr ?_; (case hd => rfl); (case hg => rfl); (case hr => exact z11_); intro gb226 hg w12 hbox hb; have n0_ := a0_ (Kd.R_below z96_ hb); have n1_ := a0_ (blk_below z121_ hb); have n2_ := a0_ (below_step z122_ hb); have n3_ := a0_ (hbox); have n4_ := a0_ ((z123_ : w.heap.size ≤ gb226)); have n5_ := a0_ ((z123_ : w.heap.size ≤ gb226)); have n6_ := a0_ ((by rw [hg]; exact Nat.ne_of_lt (blk_lt (g := gb223) (o := .cells #[.slice (some ad225) l0_0.length c0_0, .slice A0_1 l0_1.length c0_1, .int .i64 a0_2, .int .i64 a0_3] 68 (0, 0)) z121_) : gb223 ≠ gb226)); have n7_ := a0_ ((by rw [hg]; exact Nat.ne_of_gt (blk_lt (g := gb223) (o := .cells #[.slice (some ad225) l0_0.length c0_0, .slice A0_1 l0_1.length c0_1, .int .i64 a0_2, .int .i64 a0_3] 68 (0, 0)) z121_) : gb226 ≠ gb223)); clear HO_3; clear BK223; clear HB; have HO_3 := n0_; have BK223 := n1_; have HB := n2_; have BK226 := n3_; have GW226 := n4_; have GE226 := n5_; have NB223_226 := n6_; have NB226_223 := n7_; clear n0_ n1_ n2_ n3_ n4_ n5_ n6_ n7_; clear hb hbox hg; have hnb13 := NB226_223.out; have hnc13 := NB223_226.out; have hcz14_0 : w12.cell? ⟨gb226, 0, none⟩ = some (.int .i64 0) := (blk_cell BK226.out 0).trans rfl; have hcz14_1 : w12.cell? ⟨gb226, 1, none⟩ = some (.int .i64 0) := (blk_cell BK226.out 1).trans rfl; have hcz14_2 : w12.cell? ⟨gb226, 2, none⟩ = some (.slice none 0 0) := (blk_cell BK226.out 2).trans rfl; obtain ⟨hfz14_0, hfz14_1, hfz14_2⟩ := bf3_ BK226.out) | ((with_reducible refine gate_store (t := 51) (p := 5) rfl ?_); refine store_event (t := 51) (p := 5) (v := ?vo_w15) (w1 := (((w12.setCell ⟨gb226, 0, none⟩ (.int .i64 ((rd_T51 l0_0 x12_1).f0))).setCell ⟨gb226, 1, none⟩ (.int .i64 ((rd_T51 l0_0 x12_1).f1))).setCell ⟨gb226, 2, none⟩ (.slice A225_2 ((rd_T51 l0_0 x12_1).f2).length c225_2))) ?hg ?ho ?hn ?hr ?_; (case ho => rfl); (case hg => rfl); (case hn => rfl); (case hr => exact z11_); intro w15 hw; have n0_ : Aside0 (Kd.R k120 120 w15 w.heap.size (fun _ => True) u3 x3_1) := ⟨(by rw [hw]; exact (by (with_reducible repeat (first | apply Kd.R_alloc | apply Kd.R_drewN | apply Kd.R_drew)); exact Kd.R_mono (Kd.R_far (p := ⟨gb226, 2, none⟩) (Kd.R_far (p := ⟨gb226, 1, none⟩) (Kd.R_far (p := ⟨gb226, 0, none⟩) (Kd.R_types HO_3.out BK226.out z8_) (fun _ hk => hk.2) (.int .i64 ((rd_T51 l0_0 x12_1).f0))) (fun _ hk => hk.2) (.int .i64 ((rd_T51 l0_0 x12_1).f1))) (fun _ hk => hk.2) (.slice A225_2 ((rd_T51 l0_0 x12_1).f2).length c225_2)) (fun _ hk => trivial)))⟩; have n1_ : Aside0 (w15.heap[gb223]? = some (.cells #[.slice (some ad225) l0_0.length c0_0, .slice A0_1 l0_1.length c0_1, .int .i64 a0_2, .int .i64 a0_3] 68 (0, 0))) := ⟨(by rw [hw]; exact (by (with_reducible repeat (first | refine blk_drewN ?_ _ | refine blk_drew ?_ | refine blk_alloc ?_ _)); refine blk_far ?_ NB223_226.out _; (with_reducible repeat (first | refine blk_drewN ?_ _ | refine blk_drew ?_ | refine blk_alloc ?_ _)); refine blk_far ?_ NB223_226.out _; (with_reducible repeat (first | refine blk_drewN ?_ _ | refine blk_drew ?_ | refine blk_alloc ?_ _)); refine blk_far ?_ NB223_226.out _; (with_reducible repeat (first | refine blk_drewN ?_ _ | refine blk_drew ?_ | refine blk_alloc ?_ _)); exact BK223.out))⟩; have n2_ : Aside0 (w15.heap[gb226]? = some (.cells #[.int .i64 ((rd_T51 l0_0 x12_1).f0), .int .i64 ((rd_T51 l0_0 x12_1).f1), .slice A225_2 ((rd_T51 l0_0 x12_1).f2).length c225_2] 51 (0, 0))) := ⟨(by rw [hw]; exact (by (with_reducible repeat (first | refine blk_drewN ?_ _ | refine blk_drew ?_ | refine blk_alloc ?_ _)); refine blk_put (cs := #[.int .i64 ((rd_T51 l0_0 x12_1).f0), .int .i64 ((rd_T51 l0_0 x12_1).f1), .slice none 0 0]) ?_ 2 _ rfl; (with_reducible repeat (first | refine blk_drewN ?_ _ | refine blk_drew ?_ | refine blk_alloc ?_ _)); refine blk_put (cs := #[.int .i64 ((rd_T51 l0_0 x12_1).f0), .int .i64 0, .slice none 0 0]) ?_ 1 _ rfl; (with_reducible repeat (first | refine blk_drewN ?_ _ | refine blk_drew ?_ | refine blk_alloc ?_ _)); refine blk_put (cs := #[.int .i64 0, .int .i64 0, .slice none 0 0]) ?_ 0 _ rfl; (with_reducible repeat (first | refine blk_drewN ?_ _ | refine blk_drew ?_ | refine blk_alloc ?_ _)); exact BK226.out))⟩; have n3_ : Aside0 (Below w.heap.size w w15) := ⟨(by rw [hw]; exact z124_)⟩; clear hw; clear HO_3; clear BK223; clear BK226; clear HB; have HO_3 := n0_; have BK223 := n1_; have BK226 := n2_; have HB := n3_; clear n0_ n1_ n2_ n3_; have hcz16_0 : w15.cell? ⟨gb226, 0, none⟩ = some (.int .i64 ((rd_T51 l0_0 x12_1).f0)) := (blk_cell BK226.out 0).trans rfl; have hcz16_1 : w15.cell? ⟨gb226, 1, none⟩ = some (.int .i64 ((rd_T51 l0_0 x12_1).f1)) := (blk_cell BK226.out 1).trans rfl; have hcz16_2 : w15.cell? ⟨gb226, 2, none⟩ = some (.slice A225_2 ((rd_T51 l0_0 x12_1).f2).length c225_2) := (blk_cell BK226.out 2).trans rfl; obtain ⟨hfz16_0, hfz16_1, hfz16_2⟩ := bf3_ BK226.out; obtain ⟨Ao17, co17, eo17⟩ := Kd.R_slice HO_3.out; subst eo17) | ((with_reducible refine gate_callee (f := 54) rfl ?_); refine goesL_ (some 19) rfl rfl Try.func54 z6_ rfl #[.slice Ao17 x3_1.length co17, .slice A225_2 ((rd_T51 l0_0 x12_1).f2).length c225_2] rfl z16_ ?_; (with_reducible refine (fold_Merge.calls k1 (fun k_ => some k_ = (.slice Ao17 x3_1.length co17 : Value).ownBlock) _ _ x3_1 (fun k_ => k_ < w.heap.size) _ _ ((rd_T51 l0_0 x12_1).f2) t227 _ ?side1 ?side2 A11.out).mono ?_); (case side1 => exact Kd.R_V (Kd.R_tight rfl (Kd.R_types (Kd.R_types (HO_3.out) BK223.out z8_) BK226.out z8_))); (case side2 => exact Kd.V_mk HC225_2.out (Kd.F_below (Kd.C_F k120_heap HR225_2.out) z124_)); rintro e w18 ⟨v228, rfl, ho0, hb⟩; refine ⟨_, rfl, ?_⟩; have n0_ := a0_ (Kd.R_elder' z96_ (Kd.R_base ho0) hb); have n1_ := a0_ (Kd.R_lower (Kd.R_new' (Kd.R_mono (ok' := fun k_ => True) ho0 (fun _ hk_ => trivial)) (Kd.R_lt z96_)) (below_size z124_)); have n2_ := a0_ (blk_below z121_ hb); have n3_ := a0_ (blk_below (by (with_reducible repeat (first | refine blk_drewN ?_ _ | refine blk_drew ?_ | refine blk_alloc ?_ _)); exact BK226.out) hb); have n4_ := a0_ (below_step z124_ hb); clear HO_3; clear BK223; clear BK226; clear HB; have HO_3 := n0_; have HO229 := n1_; have BK223 := n2_; have BK226 := n3_; have HB := n4_; clear n0_ n1_ n2_ n3_ n4_; (try clear hb); (try clear hb2); (try clear hk); (try clear hi); (try clear ho0)))
       go_roundg k1
       case measure => have := HK1.out; omega
       case rel => exact ⟨(t227), (wrap64 (x12_1 + 1)), z4_, H', ⟨z39_⟩, ⟨by (with_reducible repeat (first | apply Kd.R_alloc | apply Kd.R_drewN | apply Kd.R_drew)); exact Kd.R_mono HO229.out (fun _ hk => trivial)⟩, ⟨z121_⟩, ⟨z124_⟩⟩
      ·rw [if_neg c10] at H
       exact absurd H (by simp)
     ·rw [if_neg c9] at H
      exact absurd H (by simp)
    ·rw [if_neg c8] at H
     have c8b0 : decide (x12_1 < (l0_0.length : Int)) = false := decide_eq_false c8
     clear c8
     replace H := Option.bind_eq_some_iff.mp H
     obtain ⟨t230, A190, H⟩ := H
     try dsimp only at H
     have A19 := a0_ A190
     clear A190
     obtain rfl := Option.some.inj H
     have hcz20_0 : wr.cell? ⟨gb223, 0, none⟩ = some (.slice A0_0 l0_0.length c0_0) := (blk_cell BK223.out 0).trans rfl
     have hcz20_1 : wr.cell? ⟨gb223, 1, none⟩ = some (.slice A0_1 l0_1.length c0_1) := (blk_cell BK223.out 1).trans rfl
     have hcz20_2 : wr.cell? ⟨gb223, 2, none⟩ = some (.int .i64 a0_2) := (blk_cell BK223.out 2).trans rfl
     have hcz20_3 : wr.cell? ⟨gb223, 3, none⟩ = some (.int .i64 a0_3) := (blk_cell BK223.out 3).trans rfl
     obtain ⟨hfz20_0, hfz20_1, hfz20_2, hfz20_3⟩ := bf4_ BK223.out
     obtain ⟨Ao21, co21, eo21⟩ := Kd.R_slice HO_3.out
     subst eo21
     go_wp2_with (first | ((with_reducible refine gate_callee (f := 54) rfl ?_); refine goesL_ (some 24) rfl rfl Try.func54 z6_ rfl #[.slice Ao21 x3_1.length co21, .slice A0_1 l0_1.length c0_1] rfl z16_ ?_; (with_reducible refine (fold_Merge.calls k1 (fun k_ => some k_ = (.slice Ao21 x3_1.length co21 : Value).ownBlock) _ _ x3_1 (fun k_ => k_ < w.heap.size) _ _ l0_1 t230 _ ?side1 ?side2 A19.out).mono ?_); (case side1 => exact Kd.R_V (Kd.R_tight rfl (Kd.R_types (HO_3.out) BK223.out z8_))); (case side2 => exact Kd.V_mk HC0_1.out (Kd.F_below (Kd.C_F k120_heap HR0_1.out) z122_)); rintro e w22 ⟨v231, rfl, ho0, hb⟩; refine ⟨_, rfl, ?_⟩; have n0_ := a0_ (Kd.R_elder' z96_ (Kd.R_base ho0) hb); have n1_ := a0_ (Kd.R_lower (Kd.R_new' (Kd.R_mono (ok' := fun k_ => True) ho0 (fun _ hk_ => trivial)) (Kd.R_lt z96_)) (below_size z122_)); have n2_ := a0_ (blk_below z121_ hb); have n3_ := a0_ (below_step z122_ hb); clear HO_3; clear BK223; clear HB; have HO_3 := n0_; have HO232 := n1_; have BK223 := n2_; have HB := n3_; clear n0_ n1_ n2_ n3_; (try clear hb); (try clear hb2); (try clear hk); (try clear hi); (try clear ho0)))
     go_ret
     exact ⟨_, z2_, by (with_reducible repeat (first | apply Kd.R_alloc | apply Kd.R_drewN | apply Kd.R_drew)); exact Kd.R_mono HO232.out (fun _ hk => trivial), z122_⟩
 ·replace c3 := Bool.eq_false_iff.mpr c3
  subst c3
  rw [if_neg (show ¬ (false = true) from z8_)] at H
  obtain rfl := Option.some.inj H
  go_enter Try.func23, Try.ntmps23
  go_wp2_with (first | ((with_reducible refine gate_dst (N := 1) rfl ?_); refine box_event ?hg (N := 1) ?hd (cs := #[.slice A0_0 l0_0.length c0_0, .slice A0_1 l0_1.length c0_1, .int .i64 a0_2, .int .i64 a0_3]) (t := 68) ?hr ?_; (case hd => rfl); (case hg => rfl); (case hr => exact z11_); intro gb223 hg w23 hbox hb; have n0_ := a0_ (below_step z3_ hb); have n1_ := a0_ (hbox); have n2_ := a0_ ((z12_ : w.heap.size ≤ gb223)); have n3_ := a0_ ((z12_ : w.heap.size ≤ gb223)); clear HB; have HB := n0_; have BK223 := n1_; have GW223 := n2_; have GE223 := n3_; clear n0_ n1_ n2_ n3_; clear hb hbox hg; have hcz24_0 : w23.cell? ⟨gb223, 0, none⟩ = some (.slice A0_0 l0_0.length c0_0) := (blk_cell BK223.out 0).trans rfl; have hcz24_1 : w23.cell? ⟨gb223, 1, none⟩ = some (.slice A0_1 l0_1.length c0_1) := (blk_cell BK223.out 1).trans rfl; have hcz24_2 : w23.cell? ⟨gb223, 2, none⟩ = some (.int .i64 a0_2) := (blk_cell BK223.out 2).trans rfl; have hcz24_3 : w23.cell? ⟨gb223, 3, none⟩ = some (.int .i64 a0_3) := (blk_cell BK223.out 3).trans rfl; obtain ⟨hfz24_0, hfz24_1, hfz24_2, hfz24_3⟩ := bf4_ BK223.out) | ((with_reducible refine gate_callee (f := 51) rfl ?_); refine goesL_ (some 7) rfl rfl Try.func51 z6_ rfl #[.agg #[.slice A0_0 l0_0.length c0_0, .slice A0_1 l0_1.length c0_1, .int .i64 a0_2, .int .i64 a0_3]] rfl z16_ ?_; (with_reducible refine (queue_Right.calls k _ _ l0_0 _ _ l0_1 a0_2 a0_3 false _ ?side1 ?side2 ?side3 ?side4 A2.out).mono ?_); (case side1 => exact z50_); (case side2 => exact z51_); (case side3 => exact z52_); (case side4 => exact z53_); rintro e w25 ⟨rfl, hb⟩; refine ⟨_, rfl, ?_⟩; replace BK223 := a0_ (blk_below z121_ hb); replace HB := a0_ (below_step z122_ hb); (try clear hb); (try clear hb2); (try clear hk); (try clear hi)))
  go_ret
  exact ⟨_, z2_, z27_, z122_⟩
def vols_Get.go (vs : List S137) (vol block : Int) : ByteArray × Int := match vols_at.go vol block vs 0 with
 | .error c => (⟨#[]⟩, c)
 | .ok i => (rdOf ByteArray.empty (rd_T137 vs i).f1 block, 0)
def vols_Get.f (k : Nat) (vs : List S137) (vol block : Int) : Option (ByteArray × Int) := (vols_Right.f k vs).bind fun b => some (if b = true then vols_Get.go vs vol block else (⟨#[]⟩, 1))
set_option maxHeartbeats 4000000 in
set_option maxRecDepth 100000 in
theorem vols_Get.calls (k : Nat) (A0 : Option Addr) (c0 : Nat) (l0 : List S137) (a1 a2 : Int) (r0 : ByteArray) (r1 : Int) (w : World) (hr0 : Kd.C k137 w A0 l0.length l0) (hc0 : l0.length ≤ c0) (h : vols_Get.f k l0 a1 a2 = some (r0, r1)) :
  Calls Try.prog 46 #[.slice A0 l0.length c0, .int .i64 a1, .int .i64 a2] w fun e w' => e = .returned (.tuple #[.string r0, .int .i64 r1]) ∧ Below w.heap.size w w' := by
 have HR0 := a0_ hr0
 have HC0 := a0_ hc0
 clear hr0 hc0
 have HB := a0_ (Below.refl w.heap.size w)
 obtain ⟨b, hb, hr⟩ := Option.bind_eq_some_iff.1 h
 have hr := Option.some.inj hr
 have A2 := a0_ hb
 clear h hb
 have eg : ∀ args w, (callFunc 44 args).run Try.prog w = .ok (.enter 44 args) w := enters_of Try.func44 z6_ rfl
 have eg2 : ∀ args w, (callFunc 50 args).run Try.prog w = .ok (.enter 50 args) w := enters_of Try.func50 z6_ rfl
 go_enter Try.func46, Try.ntmps46
 cases b with
 | false =>
  rw [if_neg z8_] at hr
  cases hr
  go_wp2_with (go_at_fn 44; (refine (vols_Right.calls k _ _ l0 false _ HR0.out HC0.out A2.out).mono ?_); rintro e w4 ⟨rfl, hb⟩; have HB2 := a0_ (below_step HB.out hb); clear hb)
  go_ret2
  exact ⟨rfl, HB2.out⟩
 | true =>
  rw [if_pos rfl] at hr
  unfold vols_Get.go at hr
  cases hres : vols_at.go a1 a2 l0 0 with
  | error c =>
   have hc := vols_at.go_ne hres
   rw [hres] at hr
   cases hr
   go_wp2_with (first | (go_at_fn 44; (refine (vols_Right.calls k _ _ l0 true _ HR0.out HC0.out A2.out).mono ?_); rintro e w4 ⟨rfl, hb⟩; have HB2 := a0_ (below_step HB.out hb); clear hb) | (go_at_fn 50; refine (vols_at.runB A0 c0 l0 _ _ w _ HR0.out HB2.out).mono ?_; rintro e w9 ⟨rfl, hb9, he⟩; have HB9 := a0_ hb9; clear hb9; rw [hres] at he; simp only at he; subst he))
   go_ret2
   exact ⟨rfl, HB9.out⟩
  | ok j =>
   rw [hres] at hr
   simp only at hr
   cases hr
   obtain ⟨_, hj, hbl⟩ := vols_at.go_ok hres
   have hbl := hbl z137
   rw [Nat.sub_zero] at hbl
   have hat := fun W (hB : Below w.heap.size w W) => at_T137 (Kd.C_below HR0.out hB) (j : Int) z7_ z7_
   have HAT := a0_ hat
   clear hat
   have hrd : rd_T137 l0 (j : Int) = l0.getD j z137 := by unfold rd_T137; rw [Int.toNat_natCast]
   rw [← hrd] at hbl
   have HBL := a0_ hbl
   clear hbl hrd
   have hcell : ∀ W ad A1 c1, Below w.heap.size w W → A0 = some ad → W.cell? ⟨(ad.add (j * 2)).block, (ad.add (j * 2)).off + 1, none⟩ = some (.slice (some A1) (rd_T137 l0 j).f1.length c1) → W.cell? (A1.add a2.toNat) = some (.string (rdOf ByteArray.empty (rd_T137 l0 j).f1 a2)) := by
    intro W ad A1 c1 hB e1 hc
    obtain ⟨ad', B1, c2, e2, x0, x1, _, hC⟩ := HAT.out W hB
    rw [e1] at e2
    cases e2
    rw [Int.toNat_natCast] at x1
    rw [x1] at hc
    injection hc with hc
    injection hc with hc1 hc2 hc3
    subst hc1
    obtain ⟨ad3, e3, hx⟩ := Kd.at_string hC a2 HBL.out.1 HBL.out.2
    cases e3
    exact hx
   have HCE := a0_ hcell
   clear hcell
   go_wp2_with (first | (go_at_fn 44; (refine (vols_Right.calls k _ _ l0 true _ HR0.out HC0.out A2.out).mono ?_); rintro e w4 ⟨rfl, hb⟩; have HB2 := a0_ (below_step HB.out hb); clear hb) | (go_at_fn 50; refine (vols_at.runB A0 c0 l0 _ _ w _ HR0.out HB2.out).mono ?_; rintro e w9 ⟨rfl, hb9, he⟩; have HB9 := a0_ hb9; clear hb9; rw [hres] at he; obtain ⟨ad9, A9, c9, e9, hx9, rfl⟩ := he; have hv := HCE.out _ _ _ _ HB9.out e9 hx9; clear hx9 e9))
   go_ret2
   exact ⟨rfl, HB9.out⟩
def fold_Pick.l0 : Nat → List (S137) → List (S120) → List (S141) → Int → Int → Option ((List (S120)) × Int)
 | 0, _, _, _, _, _ => none
 | k + 1, x0, x6, x14, x15, x16 => if x16 < x15 then (if 0 ≤ x16 then (if x16 < (x14.length : Int) then ((vols_Get.f k x0 ((rd_T141 x14 x16).f0) ((rd_T141 x14 x16).f1)).bind fun bt260 => (if bt260.2 = 0 then (if x6.length < 4398046511104 then (fold_Pick.l0 k x0 (x6 ++ [(⟨(rd_T141 x14 x16).f0, (rd_T141 x14 x16).f1, bt260.1⟩ : S120)]) x14 x15 (wrap64 (x16 + 1))) else (none)) else (some (([] : List (S120)), bt260.2)))) else (none)) else (none)) else (some (x6, 0))
def fold_Pick.f (k : Nat) (l0 : List (S137)) (l1 : List (S141)) : Option ((List (S120)) × Int) := (vols_Right.f k l0).bind fun t257 => (if t257 = true then (fold_Pick.l0 k l0 ([] : List (S120)) l1 (l1.length : Int) 0) else (some (([] : List (S120)), 1)))
set_option maxHeartbeats 8000000 in
set_option maxRecDepth 100000 in
theorem fold_Pick.calls (k : Nat) (A0 : Option Addr) (c0 : Nat) (l0 : List (S137)) (A1 : Option Addr) (c1 : Nat) (l1 : List (S141)) (r1 : List (S120)) (r2 : Int) (w : World) (hr0 : Kd.C k137 w A0 l0.length l0) (hc0 : l0.length ≤ c0) (hr1 : Kd.C k141 w A1 l1.length l1) (hc1 : l1.length ≤ c1) (h : fold_Pick.f k l0 l1 = some (r1, r2)) :
  Calls Try.prog 24 #[.slice A0 l0.length c0, .slice A1 l1.length c1] w fun e w' => ∃ v0_ : Value, e = .returned (.tuple #[v0_, .int .i64 r2]) ∧ Kd.R k120 120 w' w.heap.size (fun _ => True) v0_ r1 ∧ Below w.heap.size w w' := by
 have hu141 := Try.underlying141
 have hu120 := Try.underlying120
 have HR0 := a0_ hr0
 have HC0 := a0_ hc0
 clear hr0 hc0
 have HR1 := a0_ hr1
 have HC1 := a0_ hc1
 clear hr1 hc1
 have HB := a0_ (Below.refl w.heap.size w)
 have H : ((vols_Right.f k l0).bind fun t257 => (if t257 = true then (fold_Pick.l0 k l0 ([] : List (S120)) l1 (l1.length : Int) 0) else (some (([] : List (S120)), 1)))) = some (r1, r2) := h
 clear h
 replace H := Option.bind_eq_some_iff.mp H
 obtain ⟨t257, A30, H⟩ := H
 try dsimp only at H
 have A3 := a0_ A30
 clear A30
 by_cases c4 : t257 = true
 ·subst c4
  rw [if_pos rfl] at H
  have H' := a0_ H
  clear H
  go_enter Try.func24, Try.ntmps24
  go_wp2_with (first | ((with_reducible refine gate_callee (f := 44) rfl ?_); refine goesL_ (some 12) rfl rfl Try.func44 z6_ rfl #[.slice A0 l0.length c0] rfl z16_ ?_; (with_reducible refine (vols_Right.calls k _ _ l0 true _ ?side1 ?side2 A3.out).mono ?_); (case side1 => exact z94_); (case side2 => exact z20_); rintro e w5 ⟨rfl, hb⟩; refine ⟨_, rfl, ?_⟩; replace HB := a0_ (below_step z3_ hb); (try clear hb); (try clear hb2); (try clear hk); (try clear hi)))
  go_loopg [6, 16] k (fun kq v6 v16 w' => ∃ (x6_1 : List (S120)) (x16_1 : Int), v16 = .int .i64 x16_1 ∧ Aside0 (fold_Pick.l0 kq l0 x6_1 l1 (l1.length : Int) x16_1 = some (r1, r2)) ∧ Aside0 (kq ≤ k) ∧ Aside0 (Kd.R k120 120 w' w.heap.size (fun _ => True) v6 x6_1) ∧ Aside0 (Below w.heap.size w w'))
  case atStart => exact ⟨(([] : List (S120))), (0), z4_, H', ⟨Nat.le_refl _⟩, ⟨z27_⟩, ⟨z3_⟩⟩
  case round =>
   clear H'
   obtain ⟨x6_1, x16_1, rfl, HA, HK1, HO_6, HB⟩ := hrel
   cases gk with
   | zero => exact absurd HA.out (by simp [fold_Pick.l0])
   | succ k1 =>
    have H := HA.out
    clear HA
    simp only [fold_Pick.l0] at H
    by_cases c6 : x16_1 < (l1.length : Int)
    ·rw [if_pos c6] at H
     have c6b0 : decide (x16_1 < (l1.length : Int)) = true := decide_eq_true c6
     clear c6
     by_cases c7 : 0 ≤ x16_1
     ·rw [if_pos c7] at H
      have c7b0 : decide (0 ≤ x16_1) = true := decide_eq_true c7
      clear c7
      by_cases c8 : x16_1 < (l1.length : Int)
      ·rw [if_pos c8] at H
       have c8b0 : decide (x16_1 < (l1.length : Int)) = true := decide_eq_true c8
       clear c8
       replace H := Option.bind_eq_some_iff.mp H
       obtain ⟨⟨t260, t261⟩, A90, H⟩ := H
       try dsimp only at H
       have A9 := a0_ A90
       clear A90
       by_cases c10 : t261 = 0
       ·rw [if_pos c10] at H
        have c10b0 : (t261 == 0) = true := beq_iff_eq.mpr c10
        have c10b1 : (t261 != 0) = false := bne_eq_false_iff_eq.mpr c10
        clear c10
        by_cases c11 : x6_1.length < 4398046511104
        ·rw [if_pos c11] at H
         have LMc11 := a0_ c11
         clear c11
         obtain ⟨y262, hy262⟩ : ∃ y_ : List (S120), y_ = (x6_1 ++ [(⟨(rd_T141 l1 x16_1).f0, (rd_T141 l1 x16_1).f1, t260⟩ : S120)]) := ⟨_, rfl⟩
         replace H : (fold_Pick.l0 k1 l0 y262 l1 (l1.length : Int) (wrap64 (x16_1 + 1))) = some (r1, r2) := by first | (rw [hy262]; with_reducible exact H) | (have H2_ := (Option.bind_some _ _).symm.trans H; rw [hy262]; with_reducible exact H2_) | (have H2_ := (Option.bind_some _ _).symm.trans H; with_reducible exact H2_) | with_reducible exact H | (rw [hy262]; exact H) | exact H
         have Ny262 := a0_ hy262
         clear hy262
         have H' := a0_ H
         clear H
         have p258 : 0 ≤ (x16_1 : Int) := of_decide_eq_true z10_
         have q258 : x16_1 < (l1.length : Int) := of_decide_eq_true z10_
         obtain ⟨ad258, e258, hx258_0, hx258_1⟩ := at_T141 HR1.out x16_1 p258 q258
         cases e258
         replace hx258_0 := (HB.out.cell (World.block_lt_of_cell? w _ hx258_0)).trans hx258_0
         replace hx258_1 := (HB.out.cell (World.block_lt_of_cell? w _ hx258_1)).trans hx258_1
         replace p258 := eq_true p258
         replace q258 := eq_true q258
         go_wp2_with (first | ((with_reducible refine gate_dst (N := 8) rfl ?_); refine box_event ?hg (N := 8) ?hd (cs := #[.int .i64 0, .int .i64 0]) (t := 141) ?hr ?_; (case hd => rfl); (case hg => rfl); (case hr => exact z11_); intro gb259 hg w12 hbox hb; have n0_ := a0_ (Kd.R_below z125_ hb); have n1_ := a0_ (below_step z3_ hb); have n2_ := a0_ (hbox); have n3_ := a0_ ((z12_ : w.heap.size ≤ gb259)); have n4_ := a0_ ((z12_ : w.heap.size ≤ gb259)); clear HO_6; clear HB; have HO_6 := n0_; have HB := n1_; have BK259 := n2_; have GW259 := n3_; have GE259 := n4_; clear n0_ n1_ n2_ n3_ n4_; clear hb hbox hg; have hcz13_0 : w12.cell? ⟨gb259, 0, none⟩ = some (.int .i64 0) := (blk_cell BK259.out 0).trans rfl; have hcz13_1 : w12.cell? ⟨gb259, 1, none⟩ = some (.int .i64 0) := (blk_cell BK259.out 1).trans rfl; have hfz13_0 := blk_frozen BK259.out 0; have hfz13_1 := blk_frozen BK259.out 1) | ((with_reducible refine gate_callee (f := 46) rfl ?_); refine goesL_ (some 26) rfl rfl Try.func46 z6_ rfl #[.slice A0 l0.length c0, .int .i64 ((rd_T141 l1 x16_1).f0), .int .i64 ((rd_T141 l1 x16_1).f1)] rfl z16_ ?_; (with_reducible refine (vols_Get.calls k1 _ _ l0 ((rd_T141 l1 x16_1).f0) ((rd_T141 l1 x16_1).f1) t260 t261 _ ?side1 ?side2 A9.out).mono ?_); (case side1 => exact z126_); (case side2 => exact z20_); rintro e w14 ⟨rfl, hb⟩; refine ⟨_, rfl, ?_⟩; replace HO_6 := a0_ (Kd.R_below z127_ hb); replace BK259 := a0_ (blk_below (g := gb259) (o := .cells #[.int .i64 ((rd_T141 l1 x16_1).f0), .int .i64 ((rd_T141 l1 x16_1).f1)] 141 (0, 0)) z128_ hb); replace HB := a0_ (below_step z129_ hb); (try clear hb); (try clear hb2); (try clear hk); (try clear hi); have hcz15_0 : w14.cell? ⟨gb259, 0, none⟩ = some (.int .i64 ((rd_T141 l1 x16_1).f0)) := (blk_cell BK259.out 0).trans rfl; have hcz15_1 : w14.cell? ⟨gb259, 1, none⟩ = some (.int .i64 ((rd_T141 l1 x16_1).f1)) := (blk_cell BK259.out 1).trans rfl; have hfz15_0 := blk_frozen BK259.out 0; have hfz15_1 := blk_frozen BK259.out 1) | ((with_reducible refine gate_builtin (b := .append) (xs := #[.tmp 32, .tmp 39]) rfl ?_); at_builtin; refine Kd.R_append k120 (w0 := w) w.heap.size rfl (.tmp 32) (.tmp 39) 49 120 (.agg #[(.int .i64 0), (.int .i64 0), (.string ⟨#[]⟩)]) 32 rfl Try.underlying49 info120 rfl z8_ z7_ u6 x6_1 (⟨(rd_T141 l1 x16_1).f0, (rd_T141 l1 x16_1).f1, t260⟩ : S120) [.int .i64 ((rd_T141 l1 x16_1).f0), .int .i64 ((rd_T141 l1 x16_1).f1), .string t260] (fun _ => True) (fun _ => False) rfl rfl ?aP (fun _ hk => hk.elim) ?aF ?aO ?aB ?aS ?aL ?_; (case aP => exact k120_mkM _ _ _ (⟨(rd_T141 l1 x16_1).f0, (rd_T141 l1 x16_1).f1, t260⟩ : S120)); (case aB => exact z129_); (case aF => exact (fun _ _ => trivial)); (case aO => exact z125_); (case aS => exact (below_size z129_)); (case aL => have := LMc11.out; omega); intro v263 w16 ho hb hg hat; rw [← Ny262.out] at ho; have n0_ := a0_ (blk_grown (g := gb259) (o := .cells #[.int .i64 ((rd_T141 l1 x16_1).f0), .int .i64 ((rd_T141 l1 x16_1).f1)] 141 (0, 0)) (by (with_reducible repeat (first | refine blk_drewN ?_ _ | refine blk_drew ?_ | refine blk_alloc ?_ _)); exact BK259.out) hg (Kd.R_ne HO_6.out BK259.out z8_)); have n1_ := a0_ (hb); have n2_ := a0_ (ho); clear BK259; clear HB; clear HO_6; have BK259 := n0_; have HB := n1_; have HO264 := n2_; clear n0_ n1_ n2_; clear ho hb hg hat))
         go_roundg k1
         case measure => have := HK1.out; omega
         case rel => exact ⟨(y262), (wrap64 (x16_1 + 1)), z4_, H', ⟨z39_⟩, ⟨by (with_reducible repeat (first | apply Kd.R_alloc | apply Kd.R_drewN | apply Kd.R_drew)); exact HO264.out⟩, ⟨z129_⟩⟩
        ·rw [if_neg c11] at H
         exact absurd H (by simp)
       ·rw [if_neg c10] at H
        have c10b0 : (t261 == 0) = false := beq_eq_false_iff_ne.mpr c10
        have c10b1 : (t261 != 0) = true := bne_iff_ne.mpr c10
        simp only [Option.some.injEq, Prod.mk.injEq] at H
        obtain ⟨rfl, rfl⟩ := H
        have p258 : 0 ≤ (x16_1 : Int) := of_decide_eq_true z10_
        have q258 : x16_1 < (l1.length : Int) := of_decide_eq_true z10_
        obtain ⟨ad258, e258, hx258_0, hx258_1⟩ := at_T141 HR1.out x16_1 p258 q258
        cases e258
        replace hx258_0 := (HB.out.cell (World.block_lt_of_cell? w _ hx258_0)).trans hx258_0
        replace hx258_1 := (HB.out.cell (World.block_lt_of_cell? w _ hx258_1)).trans hx258_1
        replace p258 := eq_true p258
        replace q258 := eq_true q258
        go_wp2_with (first | ((with_reducible refine gate_dst (N := 8) rfl ?_); refine box_event ?hg (N := 8) ?hd (cs := #[.int .i64 0, .int .i64 0]) (t := 141) ?hr ?_; (case hd => rfl); (case hg => rfl); (case hr => exact z11_); intro gb259 hg w17 hbox hb; have n0_ := a0_ (Kd.R_below z125_ hb); have n1_ := a0_ (below_step z3_ hb); have n2_ := a0_ (hbox); have n3_ := a0_ ((z12_ : w.heap.size ≤ gb259)); have n4_ := a0_ ((z12_ : w.heap.size ≤ gb259)); clear HO_6; clear HB; have HO_6 := n0_; have HB := n1_; have BK259 := n2_; have GW259 := n3_; have GE259 := n4_; clear n0_ n1_ n2_ n3_ n4_; clear hb hbox hg; have hcz18_0 : w17.cell? ⟨gb259, 0, none⟩ = some (.int .i64 0) := (blk_cell BK259.out 0).trans rfl; have hcz18_1 : w17.cell? ⟨gb259, 1, none⟩ = some (.int .i64 0) := (blk_cell BK259.out 1).trans rfl; have hfz18_0 := blk_frozen BK259.out 0; have hfz18_1 := blk_frozen BK259.out 1) | ((with_reducible refine gate_callee (f := 46) rfl ?_); refine goesL_ (some 26) rfl rfl Try.func46 z6_ rfl #[.slice A0 l0.length c0, .int .i64 ((rd_T141 l1 x16_1).f0), .int .i64 ((rd_T141 l1 x16_1).f1)] rfl z16_ ?_; (with_reducible refine (vols_Get.calls k1 _ _ l0 ((rd_T141 l1 x16_1).f0) ((rd_T141 l1 x16_1).f1) t260 t261 _ ?side1 ?side2 A9.out).mono ?_); (case side1 => exact z126_); (case side2 => exact z20_); rintro e w19 ⟨rfl, hb⟩; refine ⟨_, rfl, ?_⟩; replace HO_6 := a0_ (Kd.R_below z127_ hb); replace BK259 := a0_ (blk_below (g := gb259) (o := .cells #[.int .i64 ((rd_T141 l1 x16_1).f0), .int .i64 ((rd_T141 l1 x16_1).f1)] 141 (0, 0)) z128_ hb); replace HB := a0_ (below_step z129_ hb); (try clear hb); (try clear hb2); (try clear hk); (try clear hi)))
        go_ret2
        exact ⟨_, z2_, z27_, z129_⟩
      ·rw [if_neg c8] at H
       exact absurd H (by simp)
     ·rw [if_neg c7] at H
      exact absurd H (by simp)
    ·rw [if_neg c6] at H
     have c6b0 : decide (x16_1 < (l1.length : Int)) = false := decide_eq_false c6
     clear c6
     simp only [Option.some.injEq, Prod.mk.injEq] at H
     obtain ⟨rfl, rfl⟩ := H
     go_wp2
     go_ret2
     exact ⟨_, z2_, z125_, z3_⟩
 ·replace c4 := Bool.eq_false_iff.mpr c4
  subst c4
  rw [if_neg (show ¬ (false = true) from z8_)] at H
  simp only [Option.some.injEq, Prod.mk.injEq] at H
  obtain ⟨rfl, rfl⟩ := H
  go_enter Try.func24, Try.ntmps24
  go_wp2_with (first | ((with_reducible refine gate_callee (f := 44) rfl ?_); refine goesL_ (some 12) rfl rfl Try.func44 z6_ rfl #[.slice A0 l0.length c0] rfl z16_ ?_; (with_reducible refine (vols_Right.calls k _ _ l0 false _ ?side1 ?side2 A3.out).mono ?_); (case side1 => exact z94_); (case side2 => exact z20_); rintro e w20 ⟨rfl, hb⟩; refine ⟨_, rfl, ?_⟩; replace HB := a0_ (below_step z3_ hb); (try clear hb); (try clear hb2); (try clear hk); (try clear hi)))
  go_ret2
  exact ⟨_, z2_, z27_, z3_⟩
def fold_Marks.l0 : Nat → List (S141) → List (S120) → Int → Int → Option ((List (S141)))
 | 0, _, _, _, _ => none
 | k + 1, x3, x7, x8, x9 => if x9 < x8 then (if 0 ≤ x9 then (if x9 < (x7.length : Int) then (if x3.length < 8796093022208 then (fold_Marks.l0 k (x3 ++ [(⟨(rd_T120 x7 x9).f0, (rd_T120 x7 x9).f1⟩ : S141)]) x7 x8 (wrap64 (x9 + 1))) else (none)) else (none)) else (none)) else (some x3)
def fold_Marks.f (k : Nat) (l0 : List (S120)) : Option ((List (S141))) := (fold_Fold.f k l0).bind fun t265 => (fold_Marks.l0 k ([] : List (S141)) t265 (t265.length : Int) 0)
set_option maxHeartbeats 8000000 in
set_option maxRecDepth 100000 in
theorem fold_Marks.calls (k : Nat) (A0 : Option Addr) (c0 : Nat) (l0 : List (S120)) (r : List (S141)) (w : World) (hr0 : Kd.C k120 w A0 l0.length l0) (hc0 : l0.length ≤ c0) (h : fold_Marks.f k l0 = some r) :
  Calls Try.prog 25 #[.slice A0 l0.length c0] w fun e w' => ∃ v0_ : Value, e = .returned (v0_) ∧ Kd.R k141 141 w' w.heap.size (fun _ => True) v0_ r ∧ Below w.heap.size w w' := by
 have hu120 := Try.underlying120
 have hu141 := Try.underlying141
 have HR0 := a0_ hr0
 have HC0 := a0_ hc0
 clear hr0 hc0
 have HB := a0_ (Below.refl w.heap.size w)
 have H : ((fold_Fold.f k l0).bind fun t265 => (fold_Marks.l0 k ([] : List (S141)) t265 (t265.length : Int) 0)) = some r := h
 clear h
 replace H := Option.bind_eq_some_iff.mp H
 obtain ⟨t265, A20, H⟩ := H
 try dsimp only at H
 have A2 := a0_ A20
 clear A20
 have H' := a0_ H
 clear H
 go_enter Try.func25, Try.ntmps25
 go_wp2_with (first | ((with_reducible refine gate_callee (f := 61) rfl ?_); refine goesL_ (some 7) rfl rfl Try.func61 z6_ rfl #[.slice A0 l0.length c0] rfl z16_ ?_; (with_reducible refine (fold_Fold.calls k _ _ l0 t265 _ ?side1 ?side2 A2.out).mono ?_); (case side1 => exact z94_); (case side2 => exact z20_); rintro e w3 ⟨v266, rfl, ho0, hb⟩; refine ⟨_, rfl, ?_⟩; have HO267 := a0_ (Kd.R_lower ho0 (below_size z3_)); replace HB := a0_ (below_step z3_ hb); (try clear hb); (try clear hb2); (try clear hk); (try clear hi); (try clear ho0); obtain ⟨Ao4, co4, eo4⟩ := Kd.R_slice HO267.out; subst eo4))
 go_loopg [3, 9] k (fun kq v3 v9 w' => ∃ (x3_1 : List (S141)) (x9_1 : Int), v9 = .int .i64 x9_1 ∧ Aside0 (fold_Marks.l0 kq x3_1 t265 (t265.length : Int) x9_1 = some r) ∧ Aside0 (kq ≤ k) ∧ Aside0 (Kd.R k141 141 w' w.heap.size (fun _ => True) v3 x3_1) ∧ Aside0 (Kd.R k120 120 w' w.heap.size (fun _ => True) (.slice Ao4 t265.length co4) t265) ∧ Aside0 (Below w.heap.size w w'))
 case atStart => exact ⟨(([] : List (S141))), (0), z4_, H', ⟨Nat.le_refl _⟩, ⟨z27_⟩, ⟨by (with_reducible repeat (first | apply Kd.R_alloc | apply Kd.R_drewN | apply Kd.R_drew)); exact HO267.out⟩, ⟨z3_⟩⟩
 case round =>
  clear H'
  obtain ⟨x3_1, x9_1, rfl, HA, HK1, HO_3, HO_7, HB⟩ := hrel
  cases gk with
  | zero => exact absurd HA.out (by simp [fold_Marks.l0])
  | succ k1 =>
   have H := HA.out
   clear HA
   simp only [fold_Marks.l0] at H
   by_cases c5 : x9_1 < (t265.length : Int)
   ·rw [if_pos c5] at H
    have c5b0 : decide (x9_1 < (t265.length : Int)) = true := decide_eq_true c5
    clear c5
    by_cases c6 : 0 ≤ x9_1
    ·rw [if_pos c6] at H
     have c6b0 : decide (0 ≤ x9_1) = true := decide_eq_true c6
     clear c6
     by_cases c7 : x9_1 < (t265.length : Int)
     ·rw [if_pos c7] at H
      have c7b0 : decide (x9_1 < (t265.length : Int)) = true := decide_eq_true c7
      clear c7
      by_cases c8 : x3_1.length < 8796093022208
      ·rw [if_pos c8] at H
       have LMc8 := a0_ c8
       clear c8
       obtain ⟨y270, hy270⟩ : ∃ y_ : List (S141), y_ = (x3_1 ++ [(⟨(rd_T120 t265 x9_1).f0, (rd_T120 t265 x9_1).f1⟩ : S141)]) := ⟨_, rfl⟩
       replace H : (fold_Marks.l0 k1 y270 t265 (t265.length : Int) (wrap64 (x9_1 + 1))) = some r := by first | (rw [hy270]; with_reducible exact H) | (have H2_ := (Option.bind_some _ _).symm.trans H; rw [hy270]; with_reducible exact H2_) | (have H2_ := (Option.bind_some _ _).symm.trans H; with_reducible exact H2_) | with_reducible exact H | (rw [hy270]; exact H) | exact H
       have Ny270 := a0_ hy270
       clear hy270
       have H' := a0_ H
       clear H
       have p268 : 0 ≤ (x9_1 : Int) := of_decide_eq_true z10_
       have q268 : x9_1 < (t265.length : Int) := of_decide_eq_true z10_
       obtain ⟨ad268, e268, hx268_0, hx268_1, hx268_2⟩ := at_T120 (Kd.R_reads' HO_7.out).2.2 x9_1 p268 q268
       cases e268
       replace p268 := eq_true p268
       replace q268 := eq_true q268
       go_wp2_with (first | ((with_reducible refine gate_dst (N := 5) rfl ?_); refine box_event ?hg (N := 5) ?hd (cs := #[.int .i64 0, .int .i64 0, .string (⟨#[]⟩ : ByteArray)]) (t := 120) ?hr ?_; (case hd => rfl); (case hg => rfl); (case hr => exact z11_); intro gb269 hg w9 hbox hb; have n0_ := a0_ (Kd.R_below z96_ hb); have n1_ := a0_ (Kd.R_below (Kd.R_elderB (by (with_reducible repeat (first | apply Kd.R_alloc | apply Kd.R_drewN | apply Kd.R_drew)); exact HO_7.out) gb269 (Nat.le_of_eq hg.symm)) hb); have n2_ := a0_ (below_step z3_ hb); have n3_ := a0_ (hbox); have n4_ := a0_ ((z12_ : w.heap.size ≤ gb269)); have n5_ := a0_ ((z12_ : w.heap.size ≤ gb269)); clear HO_3; clear HO_7; clear HB; have HO_3 := n0_; have HO_7 := n1_; have HB := n2_; have BK269 := n3_; have GW269 := n4_; have GE269 := n5_; clear n0_ n1_ n2_ n3_ n4_ n5_; clear hb hbox hg; have hcz10_0 : w9.cell? ⟨gb269, 0, none⟩ = some (.int .i64 0) := (blk_cell BK269.out 0).trans rfl; have hcz10_1 : w9.cell? ⟨gb269, 1, none⟩ = some (.int .i64 0) := (blk_cell BK269.out 1).trans rfl; have hcz10_2 : w9.cell? ⟨gb269, 2, none⟩ = some (.string (⟨#[]⟩ : ByteArray)) := (blk_cell BK269.out 2).trans rfl; obtain ⟨hfz10_0, hfz10_1, hfz10_2⟩ := bf3_ BK269.out) | ((with_reducible refine gate_builtin (b := .append) (xs := #[.tmp 13, .tmp 19]) rfl ?_); at_builtin; refine Kd.R_append k141 (w0 := w) w.heap.size rfl (.tmp 13) (.tmp 19) 83 141 (.agg #[(.int .i64 0), (.int .i64 0)]) 16 rfl Try.underlying83 info141 rfl z8_ z7_ u3 x3_1 (⟨(rd_T120 t265 x9_1).f0, (rd_T120 t265 x9_1).f1⟩ : S141) [.int .i64 ((rd_T120 t265 x9_1).f0), .int .i64 ((rd_T120 t265 x9_1).f1)] (fun _ => True) (fun _ => False) rfl z30_ ?aP (fun _ hk => hk.elim) ?aF ?aO ?aB ?aS ?aL ?_; (case aP => exact k141_mkM _ _ _ (⟨(rd_T120 t265 x9_1).f0, (rd_T120 t265 x9_1).f1⟩ : S141)); (case aB => exact z130_); (case aF => exact (fun _ _ => trivial)); (case aO => exact (by (with_reducible repeat (first | apply Kd.R_alloc | apply Kd.R_drewN | apply Kd.R_drew)); exact Kd.R_mono (Kd.R_far (p := ⟨gb269, 2, none⟩) (Kd.R_far (p := ⟨gb269, 1, none⟩) (Kd.R_far (p := ⟨gb269, 0, none⟩) (Kd.R_types HO_3.out BK269.out z8_) (fun _ hk => hk.2) (.int .i64 ((rd_T120 t265 x9_1).f0))) (fun _ hk => hk.2) (.int .i64 ((rd_T120 t265 x9_1).f1))) (fun _ hk => hk.2) (.string ((rd_T120 t265 x9_1).f2))) (fun _ hk => trivial))); (case aS => exact (below_size z130_)); (case aL => have := LMc8.out; omega); intro v271 w11 ho hb hg hat; rw [← Ny270.out] at ho; have n0_ := a0_ (Kd.R_over' (by (with_reducible repeat (first | apply Kd.R_alloc | apply Kd.R_drewN | apply Kd.R_drew)); exact (Kd.R_mono (Kd.R_far (p := ⟨gb269, 2, none⟩) (Kd.R_far (p := ⟨gb269, 1, none⟩) (Kd.R_far (p := ⟨gb269, 0, none⟩) (Kd.R_mono HO_7.out (fun k_ hk => (⟨hk, hk.2⟩ : _ ∧ k_ ≠ gb269))) (fun _ hk => hk.2) (.int .i64 ((rd_T120 t265 x9_1).f0))) (fun _ hk => hk.2) (.int .i64 ((rd_T120 t265 x9_1).f1))) (fun _ hk => hk.2) (.string ((rd_T120 t265 x9_1).f2))) (fun _ h_ => h_.1))) (Kd.R_typed (by (with_reducible repeat (first | apply Kd.R_alloc | apply Kd.R_drewN | apply Kd.R_drew)); exact (Kd.R_mono (Kd.R_far (p := ⟨gb269, 2, none⟩) (Kd.R_far (p := ⟨gb269, 1, none⟩) (Kd.R_far (p := ⟨gb269, 0, none⟩) (Kd.R_types HO_3.out BK269.out z8_) (fun _ hk => hk.2) (.int .i64 ((rd_T120 t265 x9_1).f0))) (fun _ hk => hk.2) (.int .i64 ((rd_T120 t265 x9_1).f1))) (fun _ hk => hk.2) (.string ((rd_T120 t265 x9_1).f2))) (fun _ h_ => h_.1)))) z8_ hg); have n1_ := a0_ (blk_grown (g := gb269) (o := .cells #[.int .i64 ((rd_T120 t265 x9_1).f0), .int .i64 ((rd_T120 t265 x9_1).f1), .string ((rd_T120 t265 x9_1).f2)] 120 (0, 0)) (by (with_reducible repeat (first | refine blk_drewN ?_ _ | refine blk_drew ?_ | refine blk_alloc ?_ _)); refine blk_put (cs := #[.int .i64 ((rd_T120 t265 x9_1).f0), .int .i64 ((rd_T120 t265 x9_1).f1), .string (⟨#[]⟩ : ByteArray)]) ?_ 2 _ rfl; (with_reducible repeat (first | refine blk_drewN ?_ _ | refine blk_drew ?_ | refine blk_alloc ?_ _)); refine blk_put (cs := #[.int .i64 ((rd_T120 t265 x9_1).f0), .int .i64 0, .string (⟨#[]⟩ : ByteArray)]) ?_ 1 _ rfl; (with_reducible repeat (first | refine blk_drewN ?_ _ | refine blk_drew ?_ | refine blk_alloc ?_ _)); refine blk_put (cs := #[.int .i64 0, .int .i64 0, .string (⟨#[]⟩ : ByteArray)]) ?_ 0 _ rfl; (with_reducible repeat (first | refine blk_drewN ?_ _ | refine blk_drew ?_ | refine blk_alloc ?_ _)); exact BK269.out) hg (Kd.R_ne HO_3.out BK269.out z8_)); have n2_ := a0_ (hb); have n3_ := a0_ (ho); clear HO_7; clear BK269; clear HB; clear HO_3; have HO_7 := n0_; have BK269 := n1_; have HB := n2_; have HO272 := n3_; clear n0_ n1_ n2_ n3_; clear ho hb hg hat))
       go_roundg k1
       case measure => have := HK1.out; omega
       case rel => exact ⟨(y270), (wrap64 (x9_1 + 1)), z4_, H', ⟨z39_⟩, ⟨by (with_reducible repeat (first | apply Kd.R_alloc | apply Kd.R_drewN | apply Kd.R_drew)); exact HO272.out⟩, ⟨by (with_reducible repeat (first | apply Kd.R_alloc | apply Kd.R_drewN | apply Kd.R_drew)); exact Kd.R_mono HO_7.out (fun _ hk => trivial)⟩, ⟨z130_⟩⟩
      ·rw [if_neg c8] at H
       exact absurd H (by simp)
     ·rw [if_neg c7] at H
      exact absurd H (by simp)
    ·rw [if_neg c6] at H
     exact absurd H (by simp)
   ·rw [if_neg c5] at H
    have c5b0 : decide (x9_1 < (t265.length : Int)) = false := decide_eq_false c5
    clear c5
    obtain rfl := Option.some.inj H
    go_wp2
    go_ret
    exact ⟨_, z2_, z96_, z3_⟩
def snap_Right.f (k : Nat) (l0 : List (S120)) (l1 : List (S137)) : Option (Bool) := (vols_Check.f k l1 l0).bind fun t273 => (if t273 = 0 then ((fold_Folded.f k l0).bind fun t274 => (some t274)) else (some false))
set_option maxHeartbeats 8000000 in
set_option maxRecDepth 100000 in
theorem snap_Right.calls (k : Nat) (A0 : Option Addr) (c0 : Nat) (l0 : List (S120)) (A1 : Option Addr) (c1 : Nat) (l1 : List (S137)) (r : Bool) (w : World) (hr0 : Kd.C k120 w A0 l0.length l0) (hc0 : l0.length ≤ c0) (hr1 : Kd.C k137 w A1 l1.length l1) (hc1 : l1.length ≤ c1) (h : snap_Right.f k l0 l1 = some r) :
  Calls Try.prog 62 #[.slice A0 l0.length c0, .slice A1 l1.length c1] w fun e w' => e = .returned (.bool r) ∧ Below w.heap.size w w' := by
 have HR0 := a0_ hr0
 have HC0 := a0_ hc0
 clear hr0 hc0
 have HR1 := a0_ hr1
 have HC1 := a0_ hc1
 clear hr1 hc1
 have HB := a0_ (Below.refl w.heap.size w)
 have H : ((vols_Check.f k l1 l0).bind fun t273 => (if t273 = 0 then ((fold_Folded.f k l0).bind fun t274 => (some t274)) else (some false))) = some r := h
 clear h
 replace H := Option.bind_eq_some_iff.mp H
 obtain ⟨t273, A30, H⟩ := H
 try dsimp only at H
 have A3 := a0_ A30
 clear A30
 by_cases c4 : t273 = 0
 ·rw [if_pos c4] at H
  have c4b0 : (t273 == 0) = true := beq_iff_eq.mpr c4
  have c4b1 : (t273 != 0) = false := bne_eq_false_iff_eq.mpr c4
  clear c4
  replace H := Option.bind_eq_some_iff.mp H
  obtain ⟨t274, A50, H⟩ := H
  try dsimp only at H
  have A5 := a0_ A50
  clear A50
  obtain rfl := Option.some.inj H
  go_enter Try.func62, Try.ntmps62
  go_wp2_with (first | ((with_reducible refine gate_callee (f := 48) rfl ?_); refine goesL_ (some 7) rfl rfl Try.func48 z6_ rfl #[.slice A1 l1.length c1, .slice A0 l0.length c0] rfl z16_ ?_; (with_reducible refine (vols_Check.calls k _ _ l1 _ _ l0 t273 _ ?side1 ?side2 ?side3 ?side4 A3.out).mono ?_); (case side1 => exact z131_); (case side2 => exact z132_); (case side3 => exact z94_); (case side4 => exact z20_); rintro e w6 ⟨rfl, hb⟩; refine ⟨_, rfl, ?_⟩; replace HB := a0_ (below_step z3_ hb); (try clear hb); (try clear hb2); (try clear hk); (try clear hi)) | (go_at_call 87; (with_reducible refine (fold_Folded.calls k _ _ l0 t274 _ ?side1 ?side2 A5.out).mono ?_); (case side1 => exact z19_); (case side2 => exact z20_); rintro e w7 ⟨rfl, hb⟩; replace HB := a0_ (below_step z3_ hb); (try clear hb); (try clear hb2); (try clear hk); (try clear hi)))
  go_ret
  exact ⟨z2_, z3_⟩
 ·rw [if_neg c4] at H
  have c4b0 : (t273 == 0) = false := beq_eq_false_iff_ne.mpr c4
  have c4b1 : (t273 != 0) = true := bne_iff_ne.mpr c4
  obtain rfl := Option.some.inj H
  go_enter Try.func62, Try.ntmps62
  go_wp2_with (first | ((with_reducible refine gate_callee (f := 48) rfl ?_); refine goesL_ (some 7) rfl rfl Try.func48 z6_ rfl #[.slice A1 l1.length c1, .slice A0 l0.length c0] rfl z16_ ?_; (with_reducible refine (vols_Check.calls k _ _ l1 _ _ l0 t273 _ ?side1 ?side2 ?side3 ?side4 A3.out).mono ?_); (case side1 => exact z131_); (case side2 => exact z132_); (case side3 => exact z94_); (case side4 => exact z20_); rintro e w8 ⟨rfl, hb⟩; refine ⟨_, rfl, ?_⟩; replace HB := a0_ (below_step z3_ hb); (try clear hb); (try clear hb2); (try clear hk); (try clear hi)))
  go_ret
  exact ⟨z2_, z3_⟩
def snap_Back.f (k : Nat) (l0 : List (S120)) (l1 : List (S137)) : Option ((List (S137)) × Int) := (snap_Right.f k l0 l1).bind fun t276 => (if t276 = true then ((vols_Apply.f k l1 l0).bind fun bt277 => (some (bt277.1, bt277.2))) else (some (([] : List (S137)), 1)))
set_option maxHeartbeats 8000000 in
set_option maxRecDepth 100000 in
theorem snap_Back.calls (k : Nat) (A0 : Option Addr) (c0 : Nat) (l0 : List (S120)) (A1 : Option Addr) (c1 : Nat) (l1 : List (S137)) (r1 : List (S137)) (r2 : Int) (w : World) (hr0 : Kd.C k120 w A0 l0.length l0) (hc0 : l0.length ≤ c0) (hr1 : Kd.C k137 w A1 l1.length l1) (hc1 : l1.length ≤ c1) (h : snap_Back.f k l0 l1 = some (r1, r2)) :
  Calls Try.prog 27 #[.slice A0 l0.length c0, .slice A1 l1.length c1] w fun e w' => ∃ v0_ : Value, e = .returned (.tuple #[v0_, .int .i64 r2]) ∧ Kd.S k137 137 w' w.heap.size (fun _ => True) v0_ r1 ∧ Below w.heap.size w w' := by
 have HR0 := a0_ hr0
 have HC0 := a0_ hc0
 clear hr0 hc0
 have HR1 := a0_ hr1
 have HC1 := a0_ hc1
 clear hr1 hc1
 have HB := a0_ (Below.refl w.heap.size w)
 have H : ((snap_Right.f k l0 l1).bind fun t276 => (if t276 = true then ((vols_Apply.f k l1 l0).bind fun bt277 => (some (bt277.1, bt277.2))) else (some (([] : List (S137)), 1)))) = some (r1, r2) := h
 clear h
 replace H := Option.bind_eq_some_iff.mp H
 obtain ⟨t276, A30, H⟩ := H
 try dsimp only at H
 have A3 := a0_ A30
 clear A30
 by_cases c4 : t276 = true
 ·subst c4
  rw [if_pos rfl] at H
  replace H := Option.bind_eq_some_iff.mp H
  obtain ⟨⟨t277, t278⟩, A50, H⟩ := H
  try dsimp only at H
  have A5 := a0_ A50
  clear A50
  simp only [Option.some.injEq, Prod.mk.injEq] at H
  obtain ⟨rfl, rfl⟩ := H
  go_enter Try.func27, Try.ntmps27
  go_wp2_with (first | ((with_reducible refine gate_callee (f := 62) rfl ?_); refine goesL_ (some 8) rfl rfl Try.func62 z6_ rfl #[.slice A0 l0.length c0, .slice A1 l1.length c1] rfl z16_ ?_; (with_reducible refine (snap_Right.calls k _ _ l0 _ _ l1 true _ ?side1 ?side2 ?side3 ?side4 A3.out).mono ?_); (case side1 => exact z94_); (case side2 => exact z20_); (case side3 => exact z131_); (case side4 => exact z132_); rintro e w6 ⟨rfl, hb⟩; refine ⟨_, rfl, ?_⟩; replace HB := a0_ (below_step z3_ hb); (try clear hb); (try clear hb2); (try clear hk); (try clear hi)) | ((with_reducible refine gate_callee (f := 16) rfl ?_); refine goesL_ (some 12) rfl rfl Try.func16 z6_ rfl #[.slice A1 l1.length c1, .slice A0 l0.length c0] rfl z16_ ?_; (with_reducible refine (vols_Apply.calls k _ _ l1 _ _ l0 t277 t278 _ ?side1 ?side2 ?side3 ?side4 A5.out).mono ?_); (case side1 => repeat (first | exact (Kd.C_below HR1.out HB.out) | (with_reducible refine Kd.C_alloc ?_ _) | (with_reducible refine Kd.C_drewN ?_ _) | (with_reducible refine Kd.C_drew ?_))); (case side2 => exact z132_); (case side3 => exact z19_); (case side4 => exact z20_); rintro e w7 ⟨v279, rfl, ho0, hb⟩; refine ⟨_, rfl, ?_⟩; have HO280 := a0_ (Kd.S_lower ho0 (below_size z3_)); replace HB := a0_ (below_step z3_ hb); (try clear hb); (try clear hb2); (try clear hk); (try clear hi); (try clear ho0)))
  go_ret2
  exact ⟨_, z2_, by (with_reducible repeat (first | apply Kd.S_alloc | apply Kd.S_drewN | apply Kd.S_drew)); exact HO280.out, z3_⟩
 ·replace c4 := Bool.eq_false_iff.mpr c4
  subst c4
  rw [if_neg (show ¬ (false = true) from z8_)] at H
  simp only [Option.some.injEq, Prod.mk.injEq] at H
  obtain ⟨rfl, rfl⟩ := H
  go_enter Try.func27, Try.ntmps27
  go_wp2_with (first | ((with_reducible refine gate_callee (f := 62) rfl ?_); refine goesL_ (some 8) rfl rfl Try.func62 z6_ rfl #[.slice A0 l0.length c0, .slice A1 l1.length c1] rfl z16_ ?_; (with_reducible refine (snap_Right.calls k _ _ l0 _ _ l1 false _ ?side1 ?side2 ?side3 ?side4 A3.out).mono ?_); (case side1 => exact z94_); (case side2 => exact z20_); (case side3 => exact z131_); (case side4 => exact z132_); rintro e w8 ⟨rfl, hb⟩; refine ⟨_, rfl, ?_⟩; replace HB := a0_ (below_step z3_ hb); (try clear hb); (try clear hb2); (try clear hk); (try clear hi)))
  go_ret2
  exact ⟨_, z2_, z26_, z3_⟩
def slices_Equal_string_string.l0 : Nat → List ByteArray → List ByteArray → Int → Int → Option (Bool)
 | 0, _, _, _, _ => none
 | k + 1, x0, x1, x12, x13 => if x13 < x12 then (if 0 ≤ x13 then (if x13 < (x0.length : Int) then (if x13 < (x1.length : Int) then (if (rdOf ByteArray.empty x0 x13).toList = (rdOf ByteArray.empty x1 x13).toList then (slices_Equal_string_string.l0 k x0 x1 x12 (wrap64 (x13 + 1))) else (some false)) else (none)) else (none)) else (none)) else (some true)
def slices_Equal_string_string.f (k : Nat) (l0 : List ByteArray) (l1 : List ByteArray) : Option (Bool) := if (l0.length : Int) = (l1.length : Int) then (slices_Equal_string_string.l0 k l0 l1 (l0.length : Int) 0) else (some false)
set_option maxHeartbeats 8000000 in
set_option maxRecDepth 100000 in
theorem slices_Equal_string_string.calls (k : Nat) (A0 : Option Addr) (c0 : Nat) (l0 : List ByteArray) (A1 : Option Addr) (c1 : Nat) (l1 : List ByteArray) (r : Bool) (w : World) (hr0 : Kd.C Kd.string w A0 l0.length l0) (hc0 : l0.length ≤ c0) (hr1 : Kd.C Kd.string w A1 l1.length l1) (hc1 : l1.length ≤ c1) (h : slices_Equal_string_string.f k l0 l1 = some r) :
  Calls Try.prog 60 #[.slice A0 l0.length c0, .slice A1 l1.length c1] w fun e w' => e = .returned (.bool r) ∧ Drawn0 w w' := by
 have HR0 := a0_ hr0
 have HC0 := a0_ hc0
 clear hr0 hc0
 have HR1 := a0_ hr1
 have HC1 := a0_ hc1
 clear hr1 hc1
 have H : (if (l0.length : Int) = (l1.length : Int) then (slices_Equal_string_string.l0 k l0 l1 (l0.length : Int) 0) else (some false)) = some r := h
 clear h
 by_cases c3 : (l0.length : Int) = (l1.length : Int)
 ·rw [if_pos c3] at H
  have c3b0 : ((l0.length : Int) == (l1.length : Int)) = true := beq_iff_eq.mpr c3
  have c3b1 : ((l0.length : Int) != (l1.length : Int)) = false := bne_eq_false_iff_eq.mpr c3
  have c3b2 : (l0.length == l1.length) = true := by first | simpa using c3 | (simp at c3 ⊢; omega)
  clear c3
  have H' := a0_ H
  clear H
  go_enter Try.func60, Try.ntmps60
  go_wp2
  repeat (go_quiet (fail); try go_wp2)
  go_loopg [13] k (fun kq v13 w' => ∃ (x13_1 : Int), v13 = .int .i64 x13_1 ∧ Aside0 (slices_Equal_string_string.l0 kq l0 l1 (l0.length : Int) x13_1 = some r) ∧ Aside0 (kq ≤ k) ∧ Drawn0 w w')
  case atStart => exact ⟨(0), z4_, H', ⟨Nat.le_refl _⟩, z5_⟩
  case round =>
   clear H'
   obtain ⟨x13_1, rfl, HA, HK1, ⟨m1, rfl⟩⟩ := hrel
   cases gk with
   | zero => exact absurd HA.out (by simp [slices_Equal_string_string.l0])
   | succ k1 =>
    have H := HA.out
    clear HA
    simp only [slices_Equal_string_string.l0] at H
    by_cases c4 : x13_1 < (l0.length : Int)
    ·rw [if_pos c4] at H
     have c4b0 : decide (x13_1 < (l0.length : Int)) = true := decide_eq_true c4
     clear c4
     by_cases c5 : 0 ≤ x13_1
     ·rw [if_pos c5] at H
      have c5b0 : decide (0 ≤ x13_1) = true := decide_eq_true c5
      clear c5
      by_cases c6 : x13_1 < (l0.length : Int)
      ·rw [if_pos c6] at H
       have c6b0 : decide (x13_1 < (l0.length : Int)) = true := decide_eq_true c6
       clear c6
       by_cases c7 : x13_1 < (l1.length : Int)
       ·rw [if_pos c7] at H
        have c7b0 : decide (x13_1 < (l1.length : Int)) = true := decide_eq_true c7
        clear c7
        by_cases c8 : (rdOf ByteArray.empty l0 x13_1).toList = (rdOf ByteArray.empty l1 x13_1).toList
        ·rw [if_pos c8] at H
         have c8b0 : ((rdOf ByteArray.empty l0 x13_1).toList == (rdOf ByteArray.empty l1 x13_1).toList) = true := beq_iff_eq.mpr c8
         have c8b1 : ((rdOf ByteArray.empty l0 x13_1).toList != (rdOf ByteArray.empty l1 x13_1).toList) = false := bne_eq_false_iff_eq.mpr c8
         clear c8
         have H' := a0_ H
         clear H
         have p282 : 0 ≤ (x13_1 : Int) := of_decide_eq_true z10_
         have q282 : x13_1 < (l0.length : Int) := of_decide_eq_true z10_
         obtain ⟨ad282, e282, hx282_0⟩ := Kd.at_string HR0.out x13_1 p282 q282
         cases e282
         replace p282 := eq_true p282
         replace q282 := eq_true q282
         have p283 : 0 ≤ (x13_1 : Int) := of_decide_eq_true z10_
         have q283 : x13_1 < (l1.length : Int) := of_decide_eq_true z10_
         obtain ⟨ad283, e283, hx283_0⟩ := Kd.at_string HR1.out x13_1 p283 q283
         cases e283
         replace p283 := eq_true p283
         replace q283 := eq_true q283
         go_wp2
         repeat (go_quiet (fail); try go_wp2)
         go_roundg k1
         case measure => have := HK1.out; omega
         case rel => exact ⟨(wrap64 (x13_1 + 1)), z4_, H', ⟨z39_⟩, z5_⟩
        ·rw [if_neg c8] at H
         have c8b0 : ((rdOf ByteArray.empty l0 x13_1).toList == (rdOf ByteArray.empty l1 x13_1).toList) = false := beq_eq_false_iff_ne.mpr c8
         have c8b1 : ((rdOf ByteArray.empty l0 x13_1).toList != (rdOf ByteArray.empty l1 x13_1).toList) = true := bne_iff_ne.mpr c8
         obtain rfl := Option.some.inj H
         have p282 : 0 ≤ (x13_1 : Int) := of_decide_eq_true z10_
         have q282 : x13_1 < (l0.length : Int) := of_decide_eq_true z10_
         obtain ⟨ad282, e282, hx282_0⟩ := Kd.at_string HR0.out x13_1 p282 q282
         cases e282
         replace p282 := eq_true p282
         replace q282 := eq_true q282
         have p283 : 0 ≤ (x13_1 : Int) := of_decide_eq_true z10_
         have q283 : x13_1 < (l1.length : Int) := of_decide_eq_true z10_
         obtain ⟨ad283, e283, hx283_0⟩ := Kd.at_string HR1.out x13_1 p283 q283
         cases e283
         replace p283 := eq_true p283
         replace q283 := eq_true q283
         go_wp2
         repeat (go_quiet (fail); try go_wp2)
         go_ret
         exact ⟨z4_, z5_⟩
       ·rw [if_neg c7] at H
        exact absurd H (by simp)
      ·rw [if_neg c6] at H
       exact absurd H (by simp)
     ·rw [if_neg c5] at H
      exact absurd H (by simp)
    ·rw [if_neg c4] at H
     have c4b0 : decide (x13_1 < (l0.length : Int)) = false := decide_eq_false c4
     clear c4
     obtain rfl := Option.some.inj H
     go_wp2
     repeat (go_quiet (fail); try go_wp2)
     go_ret
     exact ⟨z4_, z5_⟩
 ·rw [if_neg c3] at H
  have c3b0 : ((l0.length : Int) == (l1.length : Int)) = false := beq_eq_false_iff_ne.mpr c3
  have c3b1 : ((l0.length : Int) != (l1.length : Int)) = true := bne_iff_ne.mpr c3
  have c3b2 : (l0.length == l1.length) = false := by first | simpa using c3 | (simp at c3 ⊢; omega)
  obtain rfl := Option.some.inj H
  go_enter Try.func60, Try.ntmps60
  go_wp2
  repeat (go_quiet (fail); try go_wp2)
  go_ret
  exact ⟨z4_, z5_⟩
def vols_Same_1.f (k : Nat) (a0_0 : Int) (l0_1 : List ByteArray) (a1_0 : Int) (l1_1 : List ByteArray) : Option (Bool) := if a0_0 = a1_0 then ((slices_Equal_string_string.f k l0_1 l1_1).bind fun t286 => (some t286)) else (some false)
set_option maxHeartbeats 8000000 in
set_option maxRecDepth 100000 in
theorem vols_Same_1.calls (k : Nat) (a0_0 : Int) (A0_1 : Option Addr) (c0_1 : Nat) (l0_1 : List ByteArray) (a1_0 : Int) (A1_1 : Option Addr) (c1_1 : Nat) (l1_1 : List ByteArray) (r : Bool) (w : World) (hr0_1 : Kd.C Kd.string w A0_1 l0_1.length l0_1) (hc0_1 : l0_1.length ≤ c0_1) (hr1_1 : Kd.C Kd.string w A1_1 l1_1.length l1_1) (hc1_1 : l1_1.length ≤ c1_1) (h : vols_Same_1.f k a0_0 l0_1 a1_0 l1_1 = some r) :
  Calls Try.prog 59 #[.agg #[.int .i64 a0_0, .slice A0_1 l0_1.length c0_1], .agg #[.int .i64 a1_0, .slice A1_1 l1_1.length c1_1]] w fun e w' => e = .returned (.bool r) ∧ Below w.heap.size w w' := by
 have hu137 := Try.underlying137
 have HR0_1 := a0_ hr0_1
 have HC0_1 := a0_ hc0_1
 clear hr0_1 hc0_1
 have HR1_1 := a0_ hr1_1
 have HC1_1 := a0_ hc1_1
 clear hr1_1 hc1_1
 have HB := a0_ (Below.refl w.heap.size w)
 have H : (if a0_0 = a1_0 then ((slices_Equal_string_string.f k l0_1 l1_1).bind fun t286 => (some t286)) else (some false)) = some r := h
 clear h
 by_cases c3 : a0_0 = a1_0
 ·rw [if_pos c3] at H
  have c3b0 : (a0_0 == a1_0) = true := beq_iff_eq.mpr c3
  have c3b1 : (a0_0 != a1_0) = false := bne_eq_false_iff_eq.mpr c3
  clear c3
  replace H := Option.bind_eq_some_iff.mp H
  obtain ⟨t286, A40, H⟩ := H
  try dsimp only at H
  have A4 := a0_ A40
  clear A40
  obtain rfl := Option.some.inj H
  go_enter Try.func59, Try.ntmps59
  go_wp2_with (first | ((with_reducible refine gate_dst (N := 2) rfl ?_); refine box_event ?hg (N := 2) ?hd (cs := #[.int .i64 a0_0, .slice A0_1 l0_1.length c0_1]) (t := 137) ?hr ?_; (case hd => rfl); (case hg => rfl); (case hr => exact z11_); intro gb284 hg w5 hbox hb; have n0_ := a0_ (below_step z3_ hb); have n1_ := a0_ (hbox); have n2_ := a0_ ((z12_ : w.heap.size ≤ gb284)); have n3_ := a0_ ((z12_ : w.heap.size ≤ gb284)); clear HB; have HB := n0_; have BK284 := n1_; have GW284 := n2_; have GE284 := n3_; clear n0_ n1_ n2_ n3_; clear hb hbox hg) | ((with_reducible refine gate_dst (N := 3) rfl ?_); refine box_event ?hg (N := 3) ?hd (cs := #[.int .i64 a1_0, .slice A1_1 l1_1.length c1_1]) (t := 137) ?hr ?_; (case hd => rfl); (case hg => rfl); (case hr => exact z11_); intro gb285 hg w6 hbox hb; have n0_ := a0_ (blk_below z133_ hb); have n1_ := a0_ (below_step z134_ hb); have n2_ := a0_ (hbox); have n3_ := a0_ ((z135_ : w.heap.size ≤ gb285)); have n4_ := a0_ ((z135_ : w.heap.size ≤ gb285)); have n5_ := a0_ ((z136_ : gb284 ≠ gb285)); have n6_ := a0_ ((z137_ : gb285 ≠ gb284)); clear BK284; clear HB; have BK284 := n0_; have HB := n1_; have BK285 := n2_; have GW285 := n3_; have GE285 := n4_; have NB284_285 := n5_; have NB285_284 := n6_; clear n0_ n1_ n2_ n3_ n4_ n5_ n6_; clear hb hbox hg; have hnb7 := NB284_285.out; have hnc7 := NB285_284.out; have hcz8_0 : w6.cell? ⟨gb284, 0, none⟩ = some (.int .i64 a0_0) := (blk_cell BK284.out 0).trans rfl; have hcz8_1 : w6.cell? ⟨gb284, 1, none⟩ = some (.slice A0_1 l0_1.length c0_1) := (blk_cell BK284.out 1).trans rfl; have hfz8_0 := blk_frozen BK284.out 0; have hfz8_1 := blk_frozen BK284.out 1; have hcz9_0 : w6.cell? ⟨gb285, 0, none⟩ = some (.int .i64 a1_0) := (blk_cell BK285.out 0).trans rfl; have hcz9_1 : w6.cell? ⟨gb285, 1, none⟩ = some (.slice A1_1 l1_1.length c1_1) := (blk_cell BK285.out 1).trans rfl; have hfz9_0 := blk_frozen BK285.out 0; have hfz9_1 := blk_frozen BK285.out 1) | (go_at_call 60; (with_reducible refine (slices_Equal_string_string.calls k _ _ l0_1 _ _ l1_1 t286 _ ?side1 ?side2 ?side3 ?side4 A4.out).mono ?_); (case side1 => exact z52_); (case side2 => exact z53_); (case side3 => exact z72_); (case side4 => exact HC1_1.out); rintro e w' ⟨rfl, ⟨nd, rfl⟩⟩))
  go_ret
  exact ⟨z2_, z138_⟩
 ·rw [if_neg c3] at H
  have c3b0 : (a0_0 == a1_0) = false := beq_eq_false_iff_ne.mpr c3
  have c3b1 : (a0_0 != a1_0) = true := bne_iff_ne.mpr c3
  obtain rfl := Option.some.inj H
  go_enter Try.func59, Try.ntmps59
  go_wp2_with (first | ((with_reducible refine gate_dst (N := 2) rfl ?_); refine box_event ?hg (N := 2) ?hd (cs := #[.int .i64 a0_0, .slice A0_1 l0_1.length c0_1]) (t := 137) ?hr ?_; (case hd => rfl); (case hg => rfl); (case hr => exact z11_); intro gb284 hg w10 hbox hb; have n0_ := a0_ (below_step z3_ hb); have n1_ := a0_ (hbox); have n2_ := a0_ ((z12_ : w.heap.size ≤ gb284)); have n3_ := a0_ ((z12_ : w.heap.size ≤ gb284)); clear HB; have HB := n0_; have BK284 := n1_; have GW284 := n2_; have GE284 := n3_; clear n0_ n1_ n2_ n3_; clear hb hbox hg) | ((with_reducible refine gate_dst (N := 3) rfl ?_); refine box_event ?hg (N := 3) ?hd (cs := #[.int .i64 a1_0, .slice A1_1 l1_1.length c1_1]) (t := 137) ?hr ?_; (case hd => rfl); (case hg => rfl); (case hr => exact z11_); intro gb285 hg w11 hbox hb; have n0_ := a0_ (blk_below z133_ hb); have n1_ := a0_ (below_step z134_ hb); have n2_ := a0_ (hbox); have n3_ := a0_ ((z135_ : w.heap.size ≤ gb285)); have n4_ := a0_ ((z135_ : w.heap.size ≤ gb285)); have n5_ := a0_ ((z136_ : gb284 ≠ gb285)); have n6_ := a0_ ((z137_ : gb285 ≠ gb284)); clear BK284; clear HB; have BK284 := n0_; have HB := n1_; have BK285 := n2_; have GW285 := n3_; have GE285 := n4_; have NB284_285 := n5_; have NB285_284 := n6_; clear n0_ n1_ n2_ n3_ n4_ n5_ n6_; clear hb hbox hg; have hnb12 := NB284_285.out; have hnc12 := NB285_284.out; have hcz13_0 : w11.cell? ⟨gb284, 0, none⟩ = some (.int .i64 a0_0) := (blk_cell BK284.out 0).trans rfl; have hcz13_1 : w11.cell? ⟨gb284, 1, none⟩ = some (.slice A0_1 l0_1.length c0_1) := (blk_cell BK284.out 1).trans rfl; have hfz13_0 := blk_frozen BK284.out 0; have hfz13_1 := blk_frozen BK284.out 1; have hcz14_0 : w11.cell? ⟨gb285, 0, none⟩ = some (.int .i64 a1_0) := (blk_cell BK285.out 0).trans rfl; have hcz14_1 : w11.cell? ⟨gb285, 1, none⟩ = some (.slice A1_1 l1_1.length c1_1) := (blk_cell BK285.out 1).trans rfl; have hfz14_0 := blk_frozen BK285.out 0; have hfz14_1 := blk_frozen BK285.out 1))
  go_ret
  exact ⟨z2_, z138_⟩
end Go.Proofs.Ytecfndblgefhdaa.R
