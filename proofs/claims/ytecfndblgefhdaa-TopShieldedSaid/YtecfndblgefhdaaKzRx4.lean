import Derived.Test.YtecfndblgefhdaaKzRx3
namespace Go.Proofs.Ytecfndblgefhdaa.R
open Go.RowKit Go.Proofs.YtecfndblgefhdaaW.PrintWords Go.Proofs.YtecfndblgefhdaaW.PrintLast Go.Proofs.YtecfndblgefhdaaW.PrintMore
attribute [local go_sem] max2_int min2_int max_two min_two max_three min_three max_four min_four
set_option linter.unusedVariables false
set_option linter.unusedSimpArgs false
theorem qrx41_ {p : Prop} (h : p := by exact ⟨z2_, z48_⟩) : p := h
theorem qrx40_ {p : Prop} (h : p := by exact ⟨z2_, z49_⟩) : p := h
def queue_Right.l0 : Nat → Int → List (S51) → Int → Int → List (S51) → List (S120) → Int → Int → Option (Bool)
 | 0, _, _, _, _, _, _, _, _ => none
 | k + 1, x3, x9, x10, x11, x135000, x135001, x135002, x135003 => if x11 < x10 then (if 0 ≤ x11 then (if x11 < (x9.length : Int) then ((queue_fits.f ((rd_T51 x9 x11).f0)).bind fun t141 => (if t141 = true then (if ((rd_T51 x9 x11).f0) = x3 then (if ((rd_T51 x9 x11).f1) ≤ ((rd_T51 x9 x11).f0) then (some false) else ((queue_fits.f ((rd_T51 x9 x11).f1)).bind fun t142 => (if t142 = true then ((fold_Folded.f k ((rd_T51 x9 x11).f2)).bind fun t143 => (if t143 = true then (queue_Right.l0 k ((rd_T51 x9 x11).f1) x9 x10 (wrap64 (x11 + 1)) x135000 x135001 x135002 x135003) else (some false))) else (some false)))) else (some false)) else (some false))) else (none)) else (none)) else (if x135002 = x3 then ((queue_fits.f x135002).bind fun t136 => (if t136 = true then (if x135003 ≥ x135002 then ((queue_fits.f x135003).bind fun t137 => (if t137 = true then ((fold_Folded.f k x135001).bind fun t138 => (if t138 = true then (if x135003 > x135002 then (some true) else (some ((x135001.length : Int) == 0))) else (some false))) else (some false))) else (some false)) else (some false))) else (some false))
def queue_Right.f (k : Nat) (l0_0 : List (S51)) (l0_1 : List (S120)) (a0_2 : Int) (a0_3 : Int) : Option (Bool) := (queue_tail.f l0_0 l0_1 a0_2 a0_3).bind fun t135 => (queue_Right.l0 k t135 l0_0 (l0_0.length : Int) 0 l0_0 l0_1 a0_2 a0_3)
set_option maxHeartbeats 8000000 in
set_option maxRecDepth 100000 in
theorem queue_Right.calls (k : Nat) (A0_0 : Option Addr) (c0_0 : Nat) (l0_0 : List (S51)) (A0_1 : Option Addr) (c0_1 : Nat) (l0_1 : List (S120)) (a0_2 : Int) (a0_3 : Int) (r : Bool) (w : World) (hr0_0 : Kd.C k51 w A0_0 l0_0.length l0_0) (hc0_0 : l0_0.length ≤ c0_0) (hr0_1 : Kd.C k120 w A0_1 l0_1.length l0_1) (hc0_1 : l0_1.length ≤ c0_1) (h : queue_Right.f k l0_0 l0_1 a0_2 a0_3 = some r) :
  Calls Try.prog 51 #[.agg #[.slice A0_0 l0_0.length c0_0, .slice A0_1 l0_1.length c0_1, .int .i64 a0_2, .int .i64 a0_3]] w fun e w' => e = .returned (.bool r) ∧ Below w.heap.size w w' := by
 have hu68 := Try.underlying68
 have hu51 := Try.underlying51
 have HR0_0 := a0_ hr0_0
 have HC0_0 := a0_ hc0_0
 clear hr0_0 hc0_0
 have HR0_1 := a0_ hr0_1
 have HC0_1 := a0_ hc0_1
 clear hr0_1 hc0_1
 have HB := a0_ (Below.refl w.heap.size w)
 have H : ((queue_tail.f l0_0 l0_1 a0_2 a0_3).bind fun t135 => (queue_Right.l0 k t135 l0_0 (l0_0.length : Int) 0 l0_0 l0_1 a0_2 a0_3)) = some r := h
 clear h
 replace H := Option.bind_eq_some_iff.mp H
 obtain ⟨t135, A20, H⟩ := H
 try dsimp only at H
 have A2 := a0_ A20
 clear A20
 have H' := a0_ H
 clear H
 go_enter Try.func51, Try.ntmps51
 go_wp2_with (first | ((with_reducible refine gate_dst (N := 1) rfl ?_); (try (refine gate_guard (by rfl) ?_; dsimp only)); refine box_event ?hg (N := 1) ?hd (cs := #[.slice A0_0 l0_0.length c0_0, .slice A0_1 l0_1.length c0_1, .int .i64 a0_2, .int .i64 a0_3]) (t := 68) ?hr ?_; (case hd => rfl); (case hg => rfl); (case hr => exact z11_); intro gb134 hg w3 hbox hb; have n0_ := a0_ (below_step z3_ hb); have n1_ := a0_ (hbox); have n2_ := a0_ ((z12_ : w.heap.size ≤ gb134)); have n3_ := a0_ ((z12_ : w.heap.size ≤ gb134)); clear HB; have HB := n0_; have BK134 := n1_; have GW134 := n2_; have GE134 := n3_; clear n0_ n1_ n2_ n3_; clear hb hbox hg; have hcz4_0 : w3.cell? ⟨gb134, 0, none⟩ = some (.slice A0_0 l0_0.length c0_0) := (blk_cell BK134.out 0).trans rfl; have hcz4_1 : w3.cell? ⟨gb134, 1, none⟩ = some (.slice A0_1 l0_1.length c0_1) := (blk_cell BK134.out 1).trans rfl; have hcz4_2 : w3.cell? ⟨gb134, 2, none⟩ = some (.int .i64 a0_2) := (blk_cell BK134.out 2).trans rfl; have hcz4_3 : w3.cell? ⟨gb134, 3, none⟩ = some (.int .i64 a0_3) := (blk_cell BK134.out 3).trans rfl; obtain ⟨hfz4_0, hfz4_1, hfz4_2, hfz4_3⟩ := bf4_ BK134.out) | ((with_reducible refine gate_callee (f := 57) rfl ?_); refine goesL_ (some 7) rfl rfl Try.func57 z6_ rfl #[.agg #[.slice A0_0 l0_0.length c0_0, .slice A0_1 l0_1.length c0_1, .int .i64 a0_2, .int .i64 a0_3]] rfl z16_ ?_; (with_reducible refine (queue_tail.calls _ _ l0_0 _ _ l0_1 a0_2 a0_3 t135 _ ?side1 ?side2 ?side3 ?side4 A2.out).mono ?_); (case side1 => exact z50_); (case side2 => exact z51_); (case side3 => exact z52_); (case side4 => exact z53_); rintro e w5 ⟨rfl, hb⟩; refine ⟨_, rfl, ?_⟩; replace BK134 := a0_ (blk_below z54_ hb); replace HB := a0_ (below_step z48_ hb); (try clear hb); (try clear hb2); (try clear hk); (try clear hi); have hcz6_0 : w5.cell? ⟨gb134, 0, none⟩ = some (.slice A0_0 l0_0.length c0_0) := (blk_cell BK134.out 0).trans rfl; have hcz6_1 : w5.cell? ⟨gb134, 1, none⟩ = some (.slice A0_1 l0_1.length c0_1) := (blk_cell BK134.out 1).trans rfl; have hcz6_2 : w5.cell? ⟨gb134, 2, none⟩ = some (.int .i64 a0_2) := (blk_cell BK134.out 2).trans rfl; have hcz6_3 : w5.cell? ⟨gb134, 3, none⟩ = some (.int .i64 a0_3) := (blk_cell BK134.out 3).trans rfl; obtain ⟨hfz6_0, hfz6_1, hfz6_2, hfz6_3⟩ := bf4_ BK134.out))
 go_loopg [3, 11] k (fun kq v3 v11 w' => ∃ (x3_1 : Int) (x11_1 : Int), v3 = .int .i64 x3_1 ∧ v11 = .int .i64 x11_1 ∧ Aside0 (queue_Right.l0 kq x3_1 l0_0 (l0_0.length : Int) x11_1 l0_0 l0_1 a0_2 a0_3 = some r) ∧ Aside0 (kq ≤ k) ∧ Aside0 (w'.heap[gb134]? = some (.cells #[(.slice A0_0 l0_0.length c0_0), (.slice A0_1 l0_1.length c0_1), .int .i64 a0_2, .int .i64 a0_3] 68 (0, 0))) ∧ Aside0 (Below w.heap.size w w'))
 case atStart => exact ⟨(t135), (0), z4_, z4_, H', ⟨Nat.le_refl _⟩, ⟨z54_⟩, ⟨z48_⟩⟩
 case round =>
  clear H'
  obtain ⟨x3_1, x11_1, rfl, rfl, HA, HK1, BK134, HB⟩ := hrel
  cases gk with
  | zero => exact absurd HA.out (by simp [queue_Right.l0])
  | succ k1 =>
   have H := HA.out
   clear HA
   simp only [queue_Right.l0] at H
   by_cases c7 : x11_1 < (l0_0.length : Int)
   ·rw [if_pos c7] at H
    have c7b0 : decide (x11_1 < (l0_0.length : Int)) = true := decide_eq_true c7
    clear c7
    by_cases c8 : 0 ≤ x11_1
    ·rw [if_pos c8] at H
     have c8b0 : decide (0 ≤ x11_1) = true := decide_eq_true c8
     clear c8
     by_cases c9 : x11_1 < (l0_0.length : Int)
     ·rw [if_pos c9] at H
      have c9b0 : decide (x11_1 < (l0_0.length : Int)) = true := decide_eq_true c9
      clear c9
      replace H := Option.bind_eq_some_iff.mp H
      obtain ⟨t141, A100, H⟩ := H
      try dsimp only at H
      have A10 := a0_ A100
      clear A100
      by_cases c11 : t141 = true
      ·subst c11
       rw [if_pos rfl] at H
       by_cases c12 : ((rd_T51 l0_0 x11_1).f0) = x3_1
       ·rw [if_pos c12] at H
        have c12b0 : (((rd_T51 l0_0 x11_1).f0) == x3_1) = true := beq_iff_eq.mpr c12
        have c12b1 : (((rd_T51 l0_0 x11_1).f0) != x3_1) = false := bne_eq_false_iff_eq.mpr c12
        clear c12
        by_cases c13 : ((rd_T51 l0_0 x11_1).f1) ≤ ((rd_T51 l0_0 x11_1).f0)
        ·rw [if_pos c13] at H
         have c13b0 : decide (((rd_T51 l0_0 x11_1).f1) ≤ ((rd_T51 l0_0 x11_1).f0)) = true := decide_eq_true c13
         clear c13
         obtain rfl := Option.some.inj H
         have p139 : 0 ≤ (x11_1 : Int) := of_decide_eq_true z10_
         have q139 : x11_1 < (l0_0.length : Int) := of_decide_eq_true z10_
         obtain ⟨ad139, A139_2, c139_2, e139, hx139_0, hx139_1, hx139_2, hl139_2, hi139_2⟩ := at_T51 HR0_0.out x11_1 p139 q139
         cases e139
         replace hx139_0 := (HB.out.cell (World.block_lt_of_cell? w _ hx139_0)).trans hx139_0
         replace hx139_1 := (HB.out.cell (World.block_lt_of_cell? w _ hx139_1)).trans hx139_1
         replace hx139_2 := (HB.out.cell (World.block_lt_of_cell? w _ hx139_2)).trans hx139_2
         have HR139_2 := a0_ hi139_2
         have HC139_2 := a0_ hl139_2
         clear hi139_2 hl139_2
         replace p139 := eq_true p139
         replace q139 := eq_true q139
         go_wp2_with (first | ((with_reducible refine gate_dst (N := 5) rfl ?_); (try (refine gate_guard (by rfl) ?_; dsimp only)); refine box_event ?hg (N := 5) ?hd (cs := #[.int .i64 0, .int .i64 0, .slice none 0 0]) (t := 51) ?hr ?_; (case hd => rfl); (case hg => rfl); (case hr => exact z11_); intro gb140 hg w14 hbox hb; have n0_ := a0_ (blk_below z54_ hb); have n1_ := a0_ (below_step z48_ hb); have n2_ := a0_ (hbox); have n3_ := a0_ ((z55_ : w.heap.size ≤ gb140)); have n4_ := a0_ ((z55_ : w.heap.size ≤ gb140)); have n5_ := a0_ ((z56_ : gb134 ≠ gb140)); have n6_ := a0_ ((z57_ : gb140 ≠ gb134)); clear BK134; clear HB; have BK134 := n0_; have HB := n1_; have BK140 := n2_; have GW140 := n3_; have GE140 := n4_; have NB134_140 := n5_; have NB140_134 := n6_; clear n0_ n1_ n2_ n3_ n4_ n5_ n6_; clear hb hbox hg; have hnb15 := NB140_134.out; have hnc15 := NB134_140.out; have hcz16_0 : w14.cell? ⟨gb140, 0, none⟩ = some (.int .i64 0) := (blk_cell BK140.out 0).trans rfl; have hcz16_1 : w14.cell? ⟨gb140, 1, none⟩ = some (.int .i64 0) := (blk_cell BK140.out 1).trans rfl; have hcz16_2 : w14.cell? ⟨gb140, 2, none⟩ = some (.slice none 0 0) := (blk_cell BK140.out 2).trans rfl; obtain ⟨hfz16_0, hfz16_1, hfz16_2⟩ := bf3_ BK140.out) | ((with_reducible refine gate_callee (f := 47) rfl ?_); refine goesL_ (some 17) rfl rfl Try.func47 z6_ rfl #[.int .i64 ((rd_T51 l0_0 x11_1).f0)] rfl z16_ ?_; (with_reducible refine (queue_fits.calls ((rd_T51 l0_0 x11_1).f0) true _ A10.out).mono ?_); rintro e w' ⟨rfl, ⟨nd, rfl⟩⟩; refine ⟨_, rfl, ?_⟩))
         go_ret
         exact qrx40_
        ·rw [if_neg c13] at H
         have c13b0 : decide (((rd_T51 l0_0 x11_1).f1) ≤ ((rd_T51 l0_0 x11_1).f0)) = false := decide_eq_false c13
         clear c13
         replace H := Option.bind_eq_some_iff.mp H
         obtain ⟨t142, A170, H⟩ := H
         try dsimp only at H
         have A17 := a0_ A170
         clear A170
         by_cases c18 : t142 = true
         ·subst c18
          rw [if_pos rfl] at H
          replace H := Option.bind_eq_some_iff.mp H
          obtain ⟨t143, A190, H⟩ := H
          try dsimp only at H
          have A19 := a0_ A190
          clear A190
          by_cases c20 : t143 = true
          ·subst c20
           rw [if_pos rfl] at H
           have H' := a0_ H
           clear H
           have p139 : 0 ≤ (x11_1 : Int) := of_decide_eq_true z10_
           have q139 : x11_1 < (l0_0.length : Int) := of_decide_eq_true z10_
           obtain ⟨ad139, A139_2, c139_2, e139, hx139_0, hx139_1, hx139_2, hl139_2, hi139_2⟩ := at_T51 HR0_0.out x11_1 p139 q139
           cases e139
           replace hx139_0 := (HB.out.cell (World.block_lt_of_cell? w _ hx139_0)).trans hx139_0
           replace hx139_1 := (HB.out.cell (World.block_lt_of_cell? w _ hx139_1)).trans hx139_1
           replace hx139_2 := (HB.out.cell (World.block_lt_of_cell? w _ hx139_2)).trans hx139_2
           have HR139_2 := a0_ hi139_2
           have HC139_2 := a0_ hl139_2
           clear hi139_2 hl139_2
           replace p139 := eq_true p139
           replace q139 := eq_true q139
           go_wp2_with (first | ((with_reducible refine gate_dst (N := 5) rfl ?_); (try (refine gate_guard (by rfl) ?_; dsimp only)); refine box_event ?hg (N := 5) ?hd (cs := #[.int .i64 0, .int .i64 0, .slice none 0 0]) (t := 51) ?hr ?_; (case hd => rfl); (case hg => rfl); (case hr => exact z11_); intro gb140 hg w21 hbox hb; have n0_ := a0_ (blk_below z54_ hb); have n1_ := a0_ (below_step z48_ hb); have n2_ := a0_ (hbox); have n3_ := a0_ ((z55_ : w.heap.size ≤ gb140)); have n4_ := a0_ ((z55_ : w.heap.size ≤ gb140)); have n5_ := a0_ ((z56_ : gb134 ≠ gb140)); have n6_ := a0_ ((z57_ : gb140 ≠ gb134)); clear BK134; clear HB; have BK134 := n0_; have HB := n1_; have BK140 := n2_; have GW140 := n3_; have GE140 := n4_; have NB134_140 := n5_; have NB140_134 := n6_; clear n0_ n1_ n2_ n3_ n4_ n5_ n6_; clear hb hbox hg; have hnb22 := NB140_134.out; have hnc22 := NB134_140.out; have hcz23_0 : w21.cell? ⟨gb140, 0, none⟩ = some (.int .i64 0) := (blk_cell BK140.out 0).trans rfl; have hcz23_1 : w21.cell? ⟨gb140, 1, none⟩ = some (.int .i64 0) := (blk_cell BK140.out 1).trans rfl; have hcz23_2 : w21.cell? ⟨gb140, 2, none⟩ = some (.slice none 0 0) := (blk_cell BK140.out 2).trans rfl; obtain ⟨hfz23_0, hfz23_1, hfz23_2⟩ := bf3_ BK140.out) | ((with_reducible refine gate_callee (f := 47) rfl ?_); refine goesL_ (some 17) rfl rfl Try.func47 z6_ rfl #[.int .i64 ((rd_T51 l0_0 x11_1).f0)] rfl z16_ ?_; (with_reducible refine (queue_fits.calls ((rd_T51 l0_0 x11_1).f0) true _ A10.out).mono ?_); rintro e w' ⟨rfl, ⟨nd, rfl⟩⟩; refine ⟨_, rfl, ?_⟩) | (go_at_call 47; (with_reducible refine (queue_fits.calls ((rd_T51 l0_0 x11_1).f1) true _ A17.out).mono ?_); rintro e w' ⟨rfl, ⟨nd, rfl⟩⟩) | (go_at_call 87; (with_reducible refine (fold_Folded.calls k1 _ _ ((rd_T51 l0_0 x11_1).f2) true _ ?side1 ?side2 A19.out).mono ?_); (case side1 => exact z58_); (case side2 => exact HC139_2.out); rintro e w24 ⟨rfl, hb⟩; replace BK134 := a0_ (blk_below (g := gb134) (o := .cells #[.slice (some ad139) l0_0.length c0_0, .slice A0_1 l0_1.length c0_1, .int .i64 a0_2, .int .i64 a0_3] 68 (0, 0)) z59_ hb); replace BK140 := a0_ (blk_below (g := gb140) (o := .cells #[.int .i64 ((rd_T51 l0_0 x11_1).f0), .int .i64 ((rd_T51 l0_0 x11_1).f1), .slice A139_2 ((rd_T51 l0_0 x11_1).f2).length c139_2] 51 (0, 0)) z60_ hb); replace HB := a0_ (below_step z49_ hb); (try clear hb); (try clear hb2); (try clear hk); (try clear hi); have hcz25_0 : w24.cell? ⟨gb140, 0, none⟩ = some (.int .i64 ((rd_T51 l0_0 x11_1).f0)) := (blk_cell BK140.out 0).trans rfl; have hcz25_1 : w24.cell? ⟨gb140, 1, none⟩ = some (.int .i64 ((rd_T51 l0_0 x11_1).f1)) := (blk_cell BK140.out 1).trans rfl; have hcz25_2 : w24.cell? ⟨gb140, 2, none⟩ = some (.slice A139_2 ((rd_T51 l0_0 x11_1).f2).length c139_2) := (blk_cell BK140.out 2).trans rfl; obtain ⟨hfz25_0, hfz25_1, hfz25_2⟩ := bf3_ BK140.out))
           go_roundg k1
           case measure => have := HK1.out; omega
           case rel => exact ⟨((rd_T51 l0_0 x11_1).f1), (wrap64 (x11_1 + 1)), z4_, z4_, H', ⟨z39_⟩, ⟨z54_⟩, ⟨z49_⟩⟩
          ·replace c20 := Bool.eq_false_iff.mpr c20
           subst c20
           rw [if_neg (show ¬ (false = true) from z8_)] at H
           obtain rfl := Option.some.inj H
           have p139 : 0 ≤ (x11_1 : Int) := of_decide_eq_true z10_
           have q139 : x11_1 < (l0_0.length : Int) := of_decide_eq_true z10_
           obtain ⟨ad139, A139_2, c139_2, e139, hx139_0, hx139_1, hx139_2, hl139_2, hi139_2⟩ := at_T51 HR0_0.out x11_1 p139 q139
           cases e139
           replace hx139_0 := (HB.out.cell (World.block_lt_of_cell? w _ hx139_0)).trans hx139_0
           replace hx139_1 := (HB.out.cell (World.block_lt_of_cell? w _ hx139_1)).trans hx139_1
           replace hx139_2 := (HB.out.cell (World.block_lt_of_cell? w _ hx139_2)).trans hx139_2
           have HR139_2 := a0_ hi139_2
           have HC139_2 := a0_ hl139_2
           clear hi139_2 hl139_2
           replace p139 := eq_true p139
           replace q139 := eq_true q139
           go_wp2_with (first | ((with_reducible refine gate_dst (N := 5) rfl ?_); (try (refine gate_guard (by rfl) ?_; dsimp only)); refine box_event ?hg (N := 5) ?hd (cs := #[.int .i64 0, .int .i64 0, .slice none 0 0]) (t := 51) ?hr ?_; (case hd => rfl); (case hg => rfl); (case hr => exact z11_); intro gb140 hg w26 hbox hb; have n0_ := a0_ (blk_below z54_ hb); have n1_ := a0_ (below_step z48_ hb); have n2_ := a0_ (hbox); have n3_ := a0_ ((z55_ : w.heap.size ≤ gb140)); have n4_ := a0_ ((z55_ : w.heap.size ≤ gb140)); have n5_ := a0_ ((z56_ : gb134 ≠ gb140)); have n6_ := a0_ ((z57_ : gb140 ≠ gb134)); clear BK134; clear HB; have BK134 := n0_; have HB := n1_; have BK140 := n2_; have GW140 := n3_; have GE140 := n4_; have NB134_140 := n5_; have NB140_134 := n6_; clear n0_ n1_ n2_ n3_ n4_ n5_ n6_; clear hb hbox hg; have hnb27 := NB140_134.out; have hnc27 := NB134_140.out; have hcz28_0 : w26.cell? ⟨gb140, 0, none⟩ = some (.int .i64 0) := (blk_cell BK140.out 0).trans rfl; have hcz28_1 : w26.cell? ⟨gb140, 1, none⟩ = some (.int .i64 0) := (blk_cell BK140.out 1).trans rfl; have hcz28_2 : w26.cell? ⟨gb140, 2, none⟩ = some (.slice none 0 0) := (blk_cell BK140.out 2).trans rfl; obtain ⟨hfz28_0, hfz28_1, hfz28_2⟩ := bf3_ BK140.out) | ((with_reducible refine gate_callee (f := 47) rfl ?_); refine goesL_ (some 17) rfl rfl Try.func47 z6_ rfl #[.int .i64 ((rd_T51 l0_0 x11_1).f0)] rfl z16_ ?_; (with_reducible refine (queue_fits.calls ((rd_T51 l0_0 x11_1).f0) true _ A10.out).mono ?_); rintro e w' ⟨rfl, ⟨nd, rfl⟩⟩; refine ⟨_, rfl, ?_⟩) | (go_at_call 47; (with_reducible refine (queue_fits.calls ((rd_T51 l0_0 x11_1).f1) true _ A17.out).mono ?_); rintro e w' ⟨rfl, ⟨nd, rfl⟩⟩) | (go_at_call 87; (with_reducible refine (fold_Folded.calls k1 _ _ ((rd_T51 l0_0 x11_1).f2) false _ ?side1 ?side2 A19.out).mono ?_); (case side1 => exact z58_); (case side2 => exact HC139_2.out); rintro e w29 ⟨rfl, hb⟩; replace BK134 := a0_ (blk_below (g := gb134) (o := .cells #[.slice (some ad139) l0_0.length c0_0, .slice A0_1 l0_1.length c0_1, .int .i64 a0_2, .int .i64 a0_3] 68 (0, 0)) z59_ hb); replace BK140 := a0_ (blk_below (g := gb140) (o := .cells #[.int .i64 ((rd_T51 l0_0 x11_1).f0), .int .i64 ((rd_T51 l0_0 x11_1).f1), .slice A139_2 ((rd_T51 l0_0 x11_1).f2).length c139_2] 51 (0, 0)) z60_ hb); replace HB := a0_ (below_step z49_ hb); (try clear hb); (try clear hb2); (try clear hk); (try clear hi)))
           go_ret
           exact qrx40_
         ·replace c18 := Bool.eq_false_iff.mpr c18
          subst c18
          rw [if_neg (show ¬ (false = true) from z8_)] at H
          obtain rfl := Option.some.inj H
          have p139 : 0 ≤ (x11_1 : Int) := of_decide_eq_true z10_
          have q139 : x11_1 < (l0_0.length : Int) := of_decide_eq_true z10_
          obtain ⟨ad139, A139_2, c139_2, e139, hx139_0, hx139_1, hx139_2, hl139_2, hi139_2⟩ := at_T51 HR0_0.out x11_1 p139 q139
          cases e139
          replace hx139_0 := (HB.out.cell (World.block_lt_of_cell? w _ hx139_0)).trans hx139_0
          replace hx139_1 := (HB.out.cell (World.block_lt_of_cell? w _ hx139_1)).trans hx139_1
          replace hx139_2 := (HB.out.cell (World.block_lt_of_cell? w _ hx139_2)).trans hx139_2
          have HR139_2 := a0_ hi139_2
          have HC139_2 := a0_ hl139_2
          clear hi139_2 hl139_2
          replace p139 := eq_true p139
          replace q139 := eq_true q139
          go_wp2_with (first | ((with_reducible refine gate_dst (N := 5) rfl ?_); (try (refine gate_guard (by rfl) ?_; dsimp only)); refine box_event ?hg (N := 5) ?hd (cs := #[.int .i64 0, .int .i64 0, .slice none 0 0]) (t := 51) ?hr ?_; (case hd => rfl); (case hg => rfl); (case hr => exact z11_); intro gb140 hg w30 hbox hb; have n0_ := a0_ (blk_below z54_ hb); have n1_ := a0_ (below_step z48_ hb); have n2_ := a0_ (hbox); have n3_ := a0_ ((z55_ : w.heap.size ≤ gb140)); have n4_ := a0_ ((z55_ : w.heap.size ≤ gb140)); have n5_ := a0_ ((z56_ : gb134 ≠ gb140)); have n6_ := a0_ ((z57_ : gb140 ≠ gb134)); clear BK134; clear HB; have BK134 := n0_; have HB := n1_; have BK140 := n2_; have GW140 := n3_; have GE140 := n4_; have NB134_140 := n5_; have NB140_134 := n6_; clear n0_ n1_ n2_ n3_ n4_ n5_ n6_; clear hb hbox hg; have hnb31 := NB140_134.out; have hnc31 := NB134_140.out; have hcz32_0 : w30.cell? ⟨gb140, 0, none⟩ = some (.int .i64 0) := (blk_cell BK140.out 0).trans rfl; have hcz32_1 : w30.cell? ⟨gb140, 1, none⟩ = some (.int .i64 0) := (blk_cell BK140.out 1).trans rfl; have hcz32_2 : w30.cell? ⟨gb140, 2, none⟩ = some (.slice none 0 0) := (blk_cell BK140.out 2).trans rfl; obtain ⟨hfz32_0, hfz32_1, hfz32_2⟩ := bf3_ BK140.out) | ((with_reducible refine gate_callee (f := 47) rfl ?_); refine goesL_ (some 17) rfl rfl Try.func47 z6_ rfl #[.int .i64 ((rd_T51 l0_0 x11_1).f0)] rfl z16_ ?_; (with_reducible refine (queue_fits.calls ((rd_T51 l0_0 x11_1).f0) true _ A10.out).mono ?_); rintro e w' ⟨rfl, ⟨nd, rfl⟩⟩; refine ⟨_, rfl, ?_⟩) | (go_at_call 47; (with_reducible refine (queue_fits.calls ((rd_T51 l0_0 x11_1).f1) false _ A17.out).mono ?_); rintro e w' ⟨rfl, ⟨nd, rfl⟩⟩))
          go_ret
          exact qrx40_
       ·rw [if_neg c12] at H
        have c12b0 : (((rd_T51 l0_0 x11_1).f0) == x3_1) = false := beq_eq_false_iff_ne.mpr c12
        have c12b1 : (((rd_T51 l0_0 x11_1).f0) != x3_1) = true := bne_iff_ne.mpr c12
        obtain rfl := Option.some.inj H
        have p139 : 0 ≤ (x11_1 : Int) := of_decide_eq_true z10_
        have q139 : x11_1 < (l0_0.length : Int) := of_decide_eq_true z10_
        obtain ⟨ad139, A139_2, c139_2, e139, hx139_0, hx139_1, hx139_2, hl139_2, hi139_2⟩ := at_T51 HR0_0.out x11_1 p139 q139
        cases e139
        replace hx139_0 := (HB.out.cell (World.block_lt_of_cell? w _ hx139_0)).trans hx139_0
        replace hx139_1 := (HB.out.cell (World.block_lt_of_cell? w _ hx139_1)).trans hx139_1
        replace hx139_2 := (HB.out.cell (World.block_lt_of_cell? w _ hx139_2)).trans hx139_2
        have HR139_2 := a0_ hi139_2
        have HC139_2 := a0_ hl139_2
        clear hi139_2 hl139_2
        replace p139 := eq_true p139
        replace q139 := eq_true q139
        go_wp2_with (first | ((with_reducible refine gate_dst (N := 5) rfl ?_); (try (refine gate_guard (by rfl) ?_; dsimp only)); refine box_event ?hg (N := 5) ?hd (cs := #[.int .i64 0, .int .i64 0, .slice none 0 0]) (t := 51) ?hr ?_; (case hd => rfl); (case hg => rfl); (case hr => exact z11_); intro gb140 hg w33 hbox hb; have n0_ := a0_ (blk_below z54_ hb); have n1_ := a0_ (below_step z48_ hb); have n2_ := a0_ (hbox); have n3_ := a0_ ((z55_ : w.heap.size ≤ gb140)); have n4_ := a0_ ((z55_ : w.heap.size ≤ gb140)); have n5_ := a0_ ((z56_ : gb134 ≠ gb140)); have n6_ := a0_ ((z57_ : gb140 ≠ gb134)); clear BK134; clear HB; have BK134 := n0_; have HB := n1_; have BK140 := n2_; have GW140 := n3_; have GE140 := n4_; have NB134_140 := n5_; have NB140_134 := n6_; clear n0_ n1_ n2_ n3_ n4_ n5_ n6_; clear hb hbox hg; have hnb34 := NB140_134.out; have hnc34 := NB134_140.out; have hcz35_0 : w33.cell? ⟨gb140, 0, none⟩ = some (.int .i64 0) := (blk_cell BK140.out 0).trans rfl; have hcz35_1 : w33.cell? ⟨gb140, 1, none⟩ = some (.int .i64 0) := (blk_cell BK140.out 1).trans rfl; have hcz35_2 : w33.cell? ⟨gb140, 2, none⟩ = some (.slice none 0 0) := (blk_cell BK140.out 2).trans rfl; obtain ⟨hfz35_0, hfz35_1, hfz35_2⟩ := bf3_ BK140.out) | ((with_reducible refine gate_callee (f := 47) rfl ?_); refine goesL_ (some 17) rfl rfl Try.func47 z6_ rfl #[.int .i64 ((rd_T51 l0_0 x11_1).f0)] rfl z16_ ?_; (with_reducible refine (queue_fits.calls ((rd_T51 l0_0 x11_1).f0) true _ A10.out).mono ?_); rintro e w' ⟨rfl, ⟨nd, rfl⟩⟩; refine ⟨_, rfl, ?_⟩))
        go_ret
        exact qrx40_
      ·replace c11 := Bool.eq_false_iff.mpr c11
       subst c11
       rw [if_neg (show ¬ (false = true) from z8_)] at H
       obtain rfl := Option.some.inj H
       have p139 : 0 ≤ (x11_1 : Int) := of_decide_eq_true z10_
       have q139 : x11_1 < (l0_0.length : Int) := of_decide_eq_true z10_
       obtain ⟨ad139, A139_2, c139_2, e139, hx139_0, hx139_1, hx139_2, hl139_2, hi139_2⟩ := at_T51 HR0_0.out x11_1 p139 q139
       cases e139
       replace hx139_0 := (HB.out.cell (World.block_lt_of_cell? w _ hx139_0)).trans hx139_0
       replace hx139_1 := (HB.out.cell (World.block_lt_of_cell? w _ hx139_1)).trans hx139_1
       replace hx139_2 := (HB.out.cell (World.block_lt_of_cell? w _ hx139_2)).trans hx139_2
       have HR139_2 := a0_ hi139_2
       have HC139_2 := a0_ hl139_2
       clear hi139_2 hl139_2
       replace p139 := eq_true p139
       replace q139 := eq_true q139
       go_wp2_with (first | ((with_reducible refine gate_dst (N := 5) rfl ?_); (try (refine gate_guard (by rfl) ?_; dsimp only)); refine box_event ?hg (N := 5) ?hd (cs := #[.int .i64 0, .int .i64 0, .slice none 0 0]) (t := 51) ?hr ?_; (case hd => rfl); (case hg => rfl); (case hr => exact z11_); intro gb140 hg w36 hbox hb; have n0_ := a0_ (blk_below z54_ hb); have n1_ := a0_ (below_step z48_ hb); have n2_ := a0_ (hbox); have n3_ := a0_ ((z55_ : w.heap.size ≤ gb140)); have n4_ := a0_ ((z55_ : w.heap.size ≤ gb140)); have n5_ := a0_ ((z56_ : gb134 ≠ gb140)); have n6_ := a0_ ((z57_ : gb140 ≠ gb134)); clear BK134; clear HB; have BK134 := n0_; have HB := n1_; have BK140 := n2_; have GW140 := n3_; have GE140 := n4_; have NB134_140 := n5_; have NB140_134 := n6_; clear n0_ n1_ n2_ n3_ n4_ n5_ n6_; clear hb hbox hg; have hnb37 := NB140_134.out; have hnc37 := NB134_140.out; have hcz38_0 : w36.cell? ⟨gb140, 0, none⟩ = some (.int .i64 0) := (blk_cell BK140.out 0).trans rfl; have hcz38_1 : w36.cell? ⟨gb140, 1, none⟩ = some (.int .i64 0) := (blk_cell BK140.out 1).trans rfl; have hcz38_2 : w36.cell? ⟨gb140, 2, none⟩ = some (.slice none 0 0) := (blk_cell BK140.out 2).trans rfl; obtain ⟨hfz38_0, hfz38_1, hfz38_2⟩ := bf3_ BK140.out) | ((with_reducible refine gate_callee (f := 47) rfl ?_); refine goesL_ (some 17) rfl rfl Try.func47 z6_ rfl #[.int .i64 ((rd_T51 l0_0 x11_1).f0)] rfl z16_ ?_; (with_reducible refine (queue_fits.calls ((rd_T51 l0_0 x11_1).f0) false _ A10.out).mono ?_); rintro e w' ⟨rfl, ⟨nd, rfl⟩⟩; refine ⟨_, rfl, ?_⟩))
       go_ret
       exact qrx40_
     ·rw [if_neg c9] at H
      exact absurd H (by simp)
    ·rw [if_neg c8] at H
     exact absurd H (by simp)
   ·rw [if_neg c7] at H
    have c7b0 : decide (x11_1 < (l0_0.length : Int)) = false := decide_eq_false c7
    clear c7
    by_cases c39 : a0_2 = x3_1
    ·rw [if_pos c39] at H
     have c39b0 : (a0_2 == x3_1) = true := beq_iff_eq.mpr c39
     have c39b1 : (a0_2 != x3_1) = false := bne_eq_false_iff_eq.mpr c39
     clear c39
     replace H := Option.bind_eq_some_iff.mp H
     obtain ⟨t136, A400, H⟩ := H
     try dsimp only at H
     have A40 := a0_ A400
     clear A400
     by_cases c41 : t136 = true
     ·subst c41
      rw [if_pos rfl] at H
      by_cases c42 : a0_3 ≥ a0_2
      ·rw [if_pos c42] at H
       have c42b0 : decide (a0_2 ≤ a0_3) = true := decide_eq_true c42
       clear c42
       replace H := Option.bind_eq_some_iff.mp H
       obtain ⟨t137, A430, H⟩ := H
       try dsimp only at H
       have A43 := a0_ A430
       clear A430
       by_cases c44 : t137 = true
       ·subst c44
        rw [if_pos rfl] at H
        replace H := Option.bind_eq_some_iff.mp H
        obtain ⟨t138, A450, H⟩ := H
        try dsimp only at H
        have A45 := a0_ A450
        clear A450
        by_cases c46 : t138 = true
        ·subst c46
         rw [if_pos rfl] at H
         by_cases c47 : a0_3 > a0_2
         ·rw [if_pos c47] at H
          have c47b0 : decide (a0_2 < a0_3) = true := decide_eq_true c47
          clear c47
          obtain rfl := Option.some.inj H
          have hcz48_0 : wr.cell? ⟨gb134, 0, none⟩ = some (.slice A0_0 l0_0.length c0_0) := (blk_cell BK134.out 0).trans rfl
          have hcz48_1 : wr.cell? ⟨gb134, 1, none⟩ = some (.slice A0_1 l0_1.length c0_1) := (blk_cell BK134.out 1).trans rfl
          have hcz48_2 : wr.cell? ⟨gb134, 2, none⟩ = some (.int .i64 a0_2) := (blk_cell BK134.out 2).trans rfl
          have hcz48_3 : wr.cell? ⟨gb134, 3, none⟩ = some (.int .i64 a0_3) := (blk_cell BK134.out 3).trans rfl
          obtain ⟨hfz48_0, hfz48_1, hfz48_2, hfz48_3⟩ := bf4_ BK134.out
          go_wp2_with (first | (go_at_call 47; (with_reducible refine (queue_fits.calls a0_2 true _ A40.out).mono ?_); rintro e w' ⟨rfl, ⟨nd, rfl⟩⟩) | (go_at_call 47; (with_reducible refine (queue_fits.calls a0_3 true _ A43.out).mono ?_); rintro e w' ⟨rfl, ⟨nd, rfl⟩⟩) | (go_at_call 87; (with_reducible refine (fold_Folded.calls k1 _ _ l0_1 true _ ?side1 ?side2 A45.out).mono ?_); (case side1 => exact z61_); (case side2 => exact z53_); rintro e w49 ⟨rfl, hb⟩; replace BK134 := a0_ (blk_below z54_ hb); replace HB := a0_ (below_step z48_ hb); (try clear hb); (try clear hb2); (try clear hk); (try clear hi); have hcz50_0 : w49.cell? ⟨gb134, 0, none⟩ = some (.slice A0_0 l0_0.length c0_0) := (blk_cell BK134.out 0).trans rfl; have hcz50_1 : w49.cell? ⟨gb134, 1, none⟩ = some (.slice A0_1 l0_1.length c0_1) := (blk_cell BK134.out 1).trans rfl; have hcz50_2 : w49.cell? ⟨gb134, 2, none⟩ = some (.int .i64 a0_2) := (blk_cell BK134.out 2).trans rfl; have hcz50_3 : w49.cell? ⟨gb134, 3, none⟩ = some (.int .i64 a0_3) := (blk_cell BK134.out 3).trans rfl; obtain ⟨hfz50_0, hfz50_1, hfz50_2, hfz50_3⟩ := bf4_ BK134.out))
          go_ret
          exact qrx41_
         ·rw [if_neg c47] at H
          have c47b0 : decide (a0_2 < a0_3) = false := decide_eq_false c47
          clear c47
          obtain rfl := Option.some.inj H
          have hcz51_0 : wr.cell? ⟨gb134, 0, none⟩ = some (.slice A0_0 l0_0.length c0_0) := (blk_cell BK134.out 0).trans rfl
          have hcz51_1 : wr.cell? ⟨gb134, 1, none⟩ = some (.slice A0_1 l0_1.length c0_1) := (blk_cell BK134.out 1).trans rfl
          have hcz51_2 : wr.cell? ⟨gb134, 2, none⟩ = some (.int .i64 a0_2) := (blk_cell BK134.out 2).trans rfl
          have hcz51_3 : wr.cell? ⟨gb134, 3, none⟩ = some (.int .i64 a0_3) := (blk_cell BK134.out 3).trans rfl
          obtain ⟨hfz51_0, hfz51_1, hfz51_2, hfz51_3⟩ := bf4_ BK134.out
          go_wp2_with (first | (go_at_call 47; (with_reducible refine (queue_fits.calls a0_2 true _ A40.out).mono ?_); rintro e w' ⟨rfl, ⟨nd, rfl⟩⟩) | (go_at_call 47; (with_reducible refine (queue_fits.calls a0_3 true _ A43.out).mono ?_); rintro e w' ⟨rfl, ⟨nd, rfl⟩⟩) | (go_at_call 87; (with_reducible refine (fold_Folded.calls k1 _ _ l0_1 true _ ?side1 ?side2 A45.out).mono ?_); (case side1 => exact z61_); (case side2 => exact z53_); rintro e w52 ⟨rfl, hb⟩; replace BK134 := a0_ (blk_below z54_ hb); replace HB := a0_ (below_step z48_ hb); (try clear hb); (try clear hb2); (try clear hk); (try clear hi); have hcz53_0 : w52.cell? ⟨gb134, 0, none⟩ = some (.slice A0_0 l0_0.length c0_0) := (blk_cell BK134.out 0).trans rfl; have hcz53_1 : w52.cell? ⟨gb134, 1, none⟩ = some (.slice A0_1 l0_1.length c0_1) := (blk_cell BK134.out 1).trans rfl; have hcz53_2 : w52.cell? ⟨gb134, 2, none⟩ = some (.int .i64 a0_2) := (blk_cell BK134.out 2).trans rfl; have hcz53_3 : w52.cell? ⟨gb134, 3, none⟩ = some (.int .i64 a0_3) := (blk_cell BK134.out 3).trans rfl; obtain ⟨hfz53_0, hfz53_1, hfz53_2, hfz53_3⟩ := bf4_ BK134.out))
          go_ret
          exact qrx41_
        ·replace c46 := Bool.eq_false_iff.mpr c46
         subst c46
         rw [if_neg (show ¬ (false = true) from z8_)] at H
         obtain rfl := Option.some.inj H
         have hcz54_0 : wr.cell? ⟨gb134, 0, none⟩ = some (.slice A0_0 l0_0.length c0_0) := (blk_cell BK134.out 0).trans rfl
         have hcz54_1 : wr.cell? ⟨gb134, 1, none⟩ = some (.slice A0_1 l0_1.length c0_1) := (blk_cell BK134.out 1).trans rfl
         have hcz54_2 : wr.cell? ⟨gb134, 2, none⟩ = some (.int .i64 a0_2) := (blk_cell BK134.out 2).trans rfl
         have hcz54_3 : wr.cell? ⟨gb134, 3, none⟩ = some (.int .i64 a0_3) := (blk_cell BK134.out 3).trans rfl
         obtain ⟨hfz54_0, hfz54_1, hfz54_2, hfz54_3⟩ := bf4_ BK134.out
         go_wp2_with (first | (go_at_call 47; (with_reducible refine (queue_fits.calls a0_2 true _ A40.out).mono ?_); rintro e w' ⟨rfl, ⟨nd, rfl⟩⟩) | (go_at_call 47; (with_reducible refine (queue_fits.calls a0_3 true _ A43.out).mono ?_); rintro e w' ⟨rfl, ⟨nd, rfl⟩⟩) | (go_at_call 87; (with_reducible refine (fold_Folded.calls k1 _ _ l0_1 false _ ?side1 ?side2 A45.out).mono ?_); (case side1 => exact z61_); (case side2 => exact z53_); rintro e w55 ⟨rfl, hb⟩; replace BK134 := a0_ (blk_below z54_ hb); replace HB := a0_ (below_step z48_ hb); (try clear hb); (try clear hb2); (try clear hk); (try clear hi)))
         go_ret
         exact qrx41_
       ·replace c44 := Bool.eq_false_iff.mpr c44
        subst c44
        rw [if_neg (show ¬ (false = true) from z8_)] at H
        obtain rfl := Option.some.inj H
        have hcz56_0 : wr.cell? ⟨gb134, 0, none⟩ = some (.slice A0_0 l0_0.length c0_0) := (blk_cell BK134.out 0).trans rfl
        have hcz56_1 : wr.cell? ⟨gb134, 1, none⟩ = some (.slice A0_1 l0_1.length c0_1) := (blk_cell BK134.out 1).trans rfl
        have hcz56_2 : wr.cell? ⟨gb134, 2, none⟩ = some (.int .i64 a0_2) := (blk_cell BK134.out 2).trans rfl
        have hcz56_3 : wr.cell? ⟨gb134, 3, none⟩ = some (.int .i64 a0_3) := (blk_cell BK134.out 3).trans rfl
        obtain ⟨hfz56_0, hfz56_1, hfz56_2, hfz56_3⟩ := bf4_ BK134.out
        go_wp2_with (first | (go_at_call 47; (with_reducible refine (queue_fits.calls a0_2 true _ A40.out).mono ?_); rintro e w' ⟨rfl, ⟨nd, rfl⟩⟩) | (go_at_call 47; (with_reducible refine (queue_fits.calls a0_3 false _ A43.out).mono ?_); rintro e w' ⟨rfl, ⟨nd, rfl⟩⟩))
        go_ret
        exact qrx41_
      ·rw [if_neg c42] at H
       have c42b0 : decide (a0_2 ≤ a0_3) = false := decide_eq_false c42
       clear c42
       obtain rfl := Option.some.inj H
       have hcz57_0 : wr.cell? ⟨gb134, 0, none⟩ = some (.slice A0_0 l0_0.length c0_0) := (blk_cell BK134.out 0).trans rfl
       have hcz57_1 : wr.cell? ⟨gb134, 1, none⟩ = some (.slice A0_1 l0_1.length c0_1) := (blk_cell BK134.out 1).trans rfl
       have hcz57_2 : wr.cell? ⟨gb134, 2, none⟩ = some (.int .i64 a0_2) := (blk_cell BK134.out 2).trans rfl
       have hcz57_3 : wr.cell? ⟨gb134, 3, none⟩ = some (.int .i64 a0_3) := (blk_cell BK134.out 3).trans rfl
       obtain ⟨hfz57_0, hfz57_1, hfz57_2, hfz57_3⟩ := bf4_ BK134.out
       go_wp2_with (first | (go_at_call 47; (with_reducible refine (queue_fits.calls a0_2 true _ A40.out).mono ?_); rintro e w' ⟨rfl, ⟨nd, rfl⟩⟩))
       go_ret
       exact qrx41_
     ·replace c41 := Bool.eq_false_iff.mpr c41
      subst c41
      rw [if_neg (show ¬ (false = true) from z8_)] at H
      obtain rfl := Option.some.inj H
      have hcz58_0 : wr.cell? ⟨gb134, 0, none⟩ = some (.slice A0_0 l0_0.length c0_0) := (blk_cell BK134.out 0).trans rfl
      have hcz58_1 : wr.cell? ⟨gb134, 1, none⟩ = some (.slice A0_1 l0_1.length c0_1) := (blk_cell BK134.out 1).trans rfl
      have hcz58_2 : wr.cell? ⟨gb134, 2, none⟩ = some (.int .i64 a0_2) := (blk_cell BK134.out 2).trans rfl
      have hcz58_3 : wr.cell? ⟨gb134, 3, none⟩ = some (.int .i64 a0_3) := (blk_cell BK134.out 3).trans rfl
      obtain ⟨hfz58_0, hfz58_1, hfz58_2, hfz58_3⟩ := bf4_ BK134.out
      go_wp2_with (first | (go_at_call 47; (with_reducible refine (queue_fits.calls a0_2 false _ A40.out).mono ?_); rintro e w' ⟨rfl, ⟨nd, rfl⟩⟩))
      go_ret
      exact qrx41_
    ·rw [if_neg c39] at H
     have c39b0 : (a0_2 == x3_1) = false := beq_eq_false_iff_ne.mpr c39
     have c39b1 : (a0_2 != x3_1) = true := bne_iff_ne.mpr c39
     obtain rfl := Option.some.inj H
     have hcz59_0 : wr.cell? ⟨gb134, 0, none⟩ = some (.slice A0_0 l0_0.length c0_0) := (blk_cell BK134.out 0).trans rfl
     have hcz59_1 : wr.cell? ⟨gb134, 1, none⟩ = some (.slice A0_1 l0_1.length c0_1) := (blk_cell BK134.out 1).trans rfl
     have hcz59_2 : wr.cell? ⟨gb134, 2, none⟩ = some (.int .i64 a0_2) := (blk_cell BK134.out 2).trans rfl
     have hcz59_3 : wr.cell? ⟨gb134, 3, none⟩ = some (.int .i64 a0_3) := (blk_cell BK134.out 3).trans rfl
     obtain ⟨hfz59_0, hfz59_1, hfz59_2, hfz59_3⟩ := bf4_ BK134.out
     go_wp2
     go_ret
     exact qrx41_
def fold_Bytes.l0 : Nat → Int → List (S120) → Int → Int → Option (Int)
 | 0, _, _, _, _ => none
 | k + 1, x3, x6, x7, x8 => if x8 < x7 then (if 0 ≤ x8 then (if x8 < (x6.length : Int) then (fold_Bytes.l0 k (wrap64 (x3 + (wrap64 (8 + (((rd_T120 x6 x8).f2).size : Int))))) x6 x7 (wrap64 (x8 + 1))) else (none)) else (none)) else (some x3)
def fold_Bytes.f (k : Nat) (l0 : List (S120)) : Option (Int) := fold_Bytes.l0 k 0 l0 (l0.length : Int) 0
set_option maxHeartbeats 8000000 in
set_option maxRecDepth 100000 in
theorem fold_Bytes.calls (k : Nat) (A0 : Option Addr) (c0 : Nat) (l0 : List (S120)) (r : Int) (w : World) (hr0 : Kd.C k120 w A0 l0.length l0) (hc0 : l0.length ≤ c0) (h : fold_Bytes.f k l0 = some r) :
  Calls Try.prog 52 #[.slice A0 l0.length c0] w fun e w' => e = .returned (.int .i64 r) ∧ Below w.heap.size w w' := by
 have hu120 := Try.underlying120
 have HR0 := a0_ hr0
 have HC0 := a0_ hc0
 clear hr0 hc0
 have HB := a0_ (Below.refl w.heap.size w)
 have H : (fold_Bytes.l0 k 0 l0 (l0.length : Int) 0) = some r := h
 clear h
 have H' := a0_ H
 clear H
 go_enter Try.func52, Try.ntmps52
 go_wp2
 go_loopg [3, 8] k (fun kq v3 v8 w' => ∃ (x3_1 : Int) (x8_1 : Int), v3 = .int .i64 x3_1 ∧ v8 = .int .i64 x8_1 ∧ Aside0 (fold_Bytes.l0 kq x3_1 l0 (l0.length : Int) x8_1 = some r) ∧ Aside0 (kq ≤ k) ∧ Aside0 (Below w.heap.size w w'))
 case atStart => exact ⟨(0), (0), z4_, z4_, H', ⟨Nat.le_refl _⟩, ⟨z3_⟩⟩
 case round =>
  clear H'
  obtain ⟨x3_1, x8_1, rfl, rfl, HA, HK1, HB⟩ := hrel
  cases gk with
  | zero => exact absurd HA.out (by simp [fold_Bytes.l0])
  | succ k1 =>
   have H := HA.out
   clear HA
   simp only [fold_Bytes.l0] at H
   by_cases c2 : x8_1 < (l0.length : Int)
   ·rw [if_pos c2] at H
    have c2b0 : decide (x8_1 < (l0.length : Int)) = true := decide_eq_true c2
    clear c2
    by_cases c3 : 0 ≤ x8_1
    ·rw [if_pos c3] at H
     have c3b0 : decide (0 ≤ x8_1) = true := decide_eq_true c3
     clear c3
     by_cases c4 : x8_1 < (l0.length : Int)
     ·rw [if_pos c4] at H
      have c4b0 : decide (x8_1 < (l0.length : Int)) = true := decide_eq_true c4
      clear c4
      have H' := a0_ H
      clear H
      have p144 : 0 ≤ (x8_1 : Int) := of_decide_eq_true z10_
      have q144 : x8_1 < (l0.length : Int) := of_decide_eq_true z10_
      obtain ⟨ad144, e144, hx144_0, hx144_1, hx144_2⟩ := at_T120 HR0.out x8_1 p144 q144
      cases e144
      replace hx144_0 := (HB.out.cell (World.block_lt_of_cell? w _ hx144_0)).trans hx144_0
      replace hx144_1 := (HB.out.cell (World.block_lt_of_cell? w _ hx144_1)).trans hx144_1
      replace hx144_2 := (HB.out.cell (World.block_lt_of_cell? w _ hx144_2)).trans hx144_2
      replace p144 := eq_true p144
      replace q144 := eq_true q144
      go_wp2_with (first | ((with_reducible refine gate_dst (N := 5) rfl ?_); refine box_event ?hg (N := 5) ?hd (cs := #[.int .i64 0, .int .i64 0, .string (⟨#[]⟩ : ByteArray)]) (t := 120) ?hr ?_; (case hd => rfl); (case hg => rfl); (case hr => exact z11_); intro gb145 hg w5 hbox hb; have n0_ := a0_ (below_step z3_ hb); have n1_ := a0_ (hbox); have n2_ := a0_ ((z12_ : w.heap.size ≤ gb145)); have n3_ := a0_ ((z12_ : w.heap.size ≤ gb145)); clear HB; have HB := n0_; have BK145 := n1_; have GW145 := n2_; have GE145 := n3_; clear n0_ n1_ n2_ n3_; clear hb hbox hg; have hcz6_0 : w5.cell? ⟨gb145, 0, none⟩ = some (.int .i64 0) := (blk_cell BK145.out 0).trans rfl; have hcz6_1 : w5.cell? ⟨gb145, 1, none⟩ = some (.int .i64 0) := (blk_cell BK145.out 1).trans rfl; have hcz6_2 : w5.cell? ⟨gb145, 2, none⟩ = some (.string (⟨#[]⟩ : ByteArray)) := (blk_cell BK145.out 2).trans rfl; obtain ⟨hfz6_0, hfz6_1, hfz6_2⟩ := bf3_ BK145.out))
      go_roundg k1
      case measure => have := HK1.out; omega
      case rel => exact ⟨(wrap64 (x3_1 + (wrap64 (8 + (((rd_T120 l0 x8_1).f2).size : Int))))), (wrap64 (x8_1 + 1)), z4_, z4_, H', ⟨z39_⟩, ⟨by repeat (first | (with_reducible first | exact HB.out | apply below_alloc | apply pw_below_drewN | apply below_drew1 | refine below_set ?_ GE145.out) | exact HB.out)⟩⟩
     ·rw [if_neg c4] at H
      exact absurd H (by simp)
    ·rw [if_neg c3] at H
     exact absurd H (by simp)
   ·rw [if_neg c2] at H
    have c2b0 : decide (x8_1 < (l0.length : Int)) = false := decide_eq_false c2
    clear c2
    obtain rfl := Option.some.inj H
    go_wp2
    go_ret
    exact ⟨z2_, z3_⟩
def queue_Load.l0 : Nat → Int → List (S51) → Int → Int → List (S51) → List (S120) → Int → Int → Option (Int × Int)
 | 0, _, _, _, _, _, _, _, _ => none
 | k + 1, x4, x14, x15, x16, x147000, x147001, x147002, x147003 => if x16 < x15 then (if 0 ≤ x16 then (if x16 < (x14.length : Int) then ((fold_Bytes.f k ((rd_T51 x14 x16).f2)).bind fun t151 => (queue_Load.l0 k (wrap64 (x4 + t151)) x14 x15 (wrap64 (x16 + 1)) x147000 x147001 x147002 x147003)) else (none)) else (none)) else ((queue_tail.f x147000 x147001 x147002 x147003).bind fun t152 => (some (wrap64 (x147003 - t152), x4)))
def queue_Load.f (k : Nat) (l0_0 : List (S51)) (l0_1 : List (S120)) (a0_2 : Int) (a0_3 : Int) : Option (Int × Int) := (queue_Right.f k l0_0 l0_1 a0_2 a0_3).bind fun t147 => (if t147 = true then ((fold_Bytes.f k l0_1).bind fun t148 => (queue_Load.l0 k t148 l0_0 (l0_0.length : Int) 0 l0_0 l0_1 a0_2 a0_3)) else (some (0, 0)))
def queue_Load.T9 : Bool × List (List Nat × List Nat) := (true, [([], []), ([0], [0]), ([], []), ([2], [2]), ([1, 3], [1, 3]), ([], []), ([4, 3, 0, 1, 2, 3, 4], [4]), ([5, 6, 0, 1, 2, 3, 4, 5, 6], [5])])
def queue_Load.B9 : List Nat := [0, 1, 0, 4, 15, 0, 31, 127]
theorem queue_Load.tab9 : rtab .any (opsOf Try.f21 9) = queue_Load.T9 := by kernel_rfl
theorem queue_Load.bits9 : waitsOk queue_Load.T9.2 queue_Load.B9 = true := by kernel_rfl
set_option maxHeartbeats 8000000 in
set_option maxRecDepth 100000 in
theorem queue_Load.calls (k : Nat) (A0_0 : Option Addr) (c0_0 : Nat) (l0_0 : List (S51)) (A0_1 : Option Addr) (c0_1 : Nat) (l0_1 : List (S120)) (a0_2 : Int) (a0_3 : Int) (r1 : Int) (r2 : Int) (w : World) (hr0_0 : Kd.C k51 w A0_0 l0_0.length l0_0) (hc0_0 : l0_0.length ≤ c0_0) (hr0_1 : Kd.C k120 w A0_1 l0_1.length l0_1) (hc0_1 : l0_1.length ≤ c0_1) (h : queue_Load.f k l0_0 l0_1 a0_2 a0_3 = some (r1, r2)) :
  Calls Try.prog 21 #[.agg #[.slice A0_0 l0_0.length c0_0, .slice A0_1 l0_1.length c0_1, .int .i64 a0_2, .int .i64 a0_3]] w fun e w' => e = .returned (.tuple #[.int .i64 r1, .int .i64 r2]) ∧ Below w.heap.size w w' := by
 have hu68 := Try.underlying68
 have hu51 := Try.underlying51
 have HR0_0 := a0_ hr0_0
 have HC0_0 := a0_ hc0_0
 clear hr0_0 hc0_0
 have HR0_1 := a0_ hr0_1
 have HC0_1 := a0_ hc0_1
 clear hr0_1 hc0_1
 have HB := a0_ (Below.refl w.heap.size w)
 have H : ((queue_Right.f k l0_0 l0_1 a0_2 a0_3).bind fun t147 => (if t147 = true then ((fold_Bytes.f k l0_1).bind fun t148 => (queue_Load.l0 k t148 l0_0 (l0_0.length : Int) 0 l0_0 l0_1 a0_2 a0_3)) else (some (0, 0)))) = some (r1, r2) := h
 clear h
 replace H := Option.bind_eq_some_iff.mp H
 obtain ⟨t147, A20, H⟩ := H
 try dsimp only at H
 have A2 := a0_ A20
 clear A20
 by_cases c3 : t147 = true
 ·subst c3
  rw [if_pos rfl] at H
  replace H := Option.bind_eq_some_iff.mp H
  obtain ⟨t148, A40, H⟩ := H
  try dsimp only at H
  have A4 := a0_ A40
  clear A40
  have H' := a0_ H
  clear H
  go_enter Try.func21, Try.ntmps21
  go_wp2_with (first | ((with_reducible refine gate_dst (N := 1) rfl ?_); refine box_event ?hg (N := 1) ?hd (cs := #[.slice A0_0 l0_0.length c0_0, .slice A0_1 l0_1.length c0_1, .int .i64 a0_2, .int .i64 a0_3]) (t := 68) ?hr ?_; (case hd => rfl); (case hg => rfl); (case hr => exact z11_); intro gb146 hg w5 hbox hb; have n0_ := a0_ (below_step z3_ hb); have n1_ := a0_ (hbox); have n2_ := a0_ ((z12_ : w.heap.size ≤ gb146)); have n3_ := a0_ ((z12_ : w.heap.size ≤ gb146)); clear HB; have HB := n0_; have BK146 := n1_; have GW146 := n2_; have GE146 := n3_; clear n0_ n1_ n2_ n3_; clear hb hbox hg; have hcz6_0 : w5.cell? ⟨gb146, 0, none⟩ = some (.slice A0_0 l0_0.length c0_0) := (blk_cell BK146.out 0).trans rfl; have hcz6_1 : w5.cell? ⟨gb146, 1, none⟩ = some (.slice A0_1 l0_1.length c0_1) := (blk_cell BK146.out 1).trans rfl; have hcz6_2 : w5.cell? ⟨gb146, 2, none⟩ = some (.int .i64 a0_2) := (blk_cell BK146.out 2).trans rfl; have hcz6_3 : w5.cell? ⟨gb146, 3, none⟩ = some (.int .i64 a0_3) := (blk_cell BK146.out 3).trans rfl; obtain ⟨hfz6_0, hfz6_1, hfz6_2, hfz6_3⟩ := bf4_ BK146.out) | ((with_reducible refine gate_callee (f := 51) rfl ?_); refine goesL_ (some 8) rfl rfl Try.func51 z6_ rfl #[.agg #[.slice A0_0 l0_0.length c0_0, .slice A0_1 l0_1.length c0_1, .int .i64 a0_2, .int .i64 a0_3]] rfl z16_ ?_; (with_reducible refine (queue_Right.calls k _ _ l0_0 _ _ l0_1 a0_2 a0_3 true _ ?side1 ?side2 ?side3 ?side4 A2.out).mono ?_); (case side1 => exact z50_); (case side2 => exact z51_); (case side3 => exact z52_); (case side4 => exact z53_); rintro e w7 ⟨rfl, hb⟩; refine ⟨_, rfl, ?_⟩; replace BK146 := a0_ (blk_below z62_ hb); replace HB := a0_ (below_step z63_ hb); (try clear hb); (try clear hb2); (try clear hk); (try clear hi); have hcz8_0 : w7.cell? ⟨gb146, 0, none⟩ = some (.slice A0_0 l0_0.length c0_0) := (blk_cell BK146.out 0).trans rfl; have hcz8_1 : w7.cell? ⟨gb146, 1, none⟩ = some (.slice A0_1 l0_1.length c0_1) := (blk_cell BK146.out 1).trans rfl; have hcz8_2 : w7.cell? ⟨gb146, 2, none⟩ = some (.int .i64 a0_2) := (blk_cell BK146.out 2).trans rfl; have hcz8_3 : w7.cell? ⟨gb146, 3, none⟩ = some (.int .i64 a0_3) := (blk_cell BK146.out 3).trans rfl; obtain ⟨hfz8_0, hfz8_1, hfz8_2, hfz8_3⟩ := bf4_ BK146.out) | ((with_reducible refine gate_callee (f := 52) rfl ?_); refine goesL_ (some 12) rfl rfl Try.func52 z6_ rfl #[.slice A0_1 l0_1.length c0_1] rfl z16_ ?_; (with_reducible refine (fold_Bytes.calls k _ _ l0_1 t148 _ ?side1 ?side2 A4.out).mono ?_); (case side1 => exact z52_); (case side2 => exact z53_); rintro e w9 ⟨rfl, hb⟩; refine ⟨_, rfl, ?_⟩; replace BK146 := a0_ (blk_below z62_ hb); replace HB := a0_ (below_step z63_ hb); (try clear hb); (try clear hb2); (try clear hk); (try clear hi); have hcz10_0 : w9.cell? ⟨gb146, 0, none⟩ = some (.slice A0_0 l0_0.length c0_0) := (blk_cell BK146.out 0).trans rfl; have hcz10_1 : w9.cell? ⟨gb146, 1, none⟩ = some (.slice A0_1 l0_1.length c0_1) := (blk_cell BK146.out 1).trans rfl; have hcz10_2 : w9.cell? ⟨gb146, 2, none⟩ = some (.int .i64 a0_2) := (blk_cell BK146.out 2).trans rfl; have hcz10_3 : w9.cell? ⟨gb146, 3, none⟩ = some (.int .i64 a0_3) := (blk_cell BK146.out 3).trans rfl; obtain ⟨hfz10_0, hfz10_1, hfz10_2, hfz10_3⟩ := bf4_ BK146.out))
  go_loopg [4, 16] k (fun kq v4 v16 w' => ∃ (x4_1 : Int) (x16_1 : Int), v4 = .int .i64 x4_1 ∧ v16 = .int .i64 x16_1 ∧ Aside0 (queue_Load.l0 kq x4_1 l0_0 (l0_0.length : Int) x16_1 l0_0 l0_1 a0_2 a0_3 = some (r1, r2)) ∧ Aside0 (kq ≤ k) ∧ Aside0 (w'.heap[gb146]? = some (.cells #[(.slice A0_0 l0_0.length c0_0), (.slice A0_1 l0_1.length c0_1), .int .i64 a0_2, .int .i64 a0_3] 68 (0, 0))) ∧ Aside0 (Below w.heap.size w w'))
  case atStart => exact ⟨(t148), (0), z4_, z4_, H', ⟨Nat.le_refl _⟩, ⟨z62_⟩, ⟨z63_⟩⟩
  case round =>
   clear H'
   obtain ⟨x4_1, x16_1, rfl, rfl, HA, HK1, BK146, HB⟩ := hrel
   cases gk with
   | zero => exact absurd HA.out (by simp [queue_Load.l0])
   | succ k1 =>
    have H := HA.out
    clear HA
    simp only [queue_Load.l0] at H
    by_cases c11 : x16_1 < (l0_0.length : Int)
    ·rw [if_pos c11] at H
     have c11b0 : decide (x16_1 < (l0_0.length : Int)) = true := decide_eq_true c11
     clear c11
     by_cases c12 : 0 ≤ x16_1
     ·rw [if_pos c12] at H
      have c12b0 : decide (0 ≤ x16_1) = true := decide_eq_true c12
      clear c12
      by_cases c13 : x16_1 < (l0_0.length : Int)
      ·rw [if_pos c13] at H
       have c13b0 : decide (x16_1 < (l0_0.length : Int)) = true := decide_eq_true c13
       clear c13
       replace H := Option.bind_eq_some_iff.mp H
       obtain ⟨t151, A140, H⟩ := H
       try dsimp only at H
       have A14 := a0_ A140
       clear A140
       have H' := a0_ H
       clear H
       have p149 : 0 ≤ (x16_1 : Int) := of_decide_eq_true z10_
       have q149 : x16_1 < (l0_0.length : Int) := of_decide_eq_true z10_
       obtain ⟨ad149, A149_2, c149_2, e149, hx149_0, hx149_1, hx149_2, hl149_2, hi149_2⟩ := at_T51 HR0_0.out x16_1 p149 q149
       cases e149
       replace hx149_0 := (HB.out.cell (World.block_lt_of_cell? w _ hx149_0)).trans hx149_0
       replace hx149_1 := (HB.out.cell (World.block_lt_of_cell? w _ hx149_1)).trans hx149_1
       replace hx149_2 := (HB.out.cell (World.block_lt_of_cell? w _ hx149_2)).trans hx149_2
       have HR149_2 := a0_ hi149_2
       have HC149_2 := a0_ hl149_2
       clear hi149_2 hl149_2
       replace p149 := eq_true p149
       replace q149 := eq_true q149
       go_wp2_with (first | ((with_reducible refine gate_dst (N := 6) rfl ?_); refine box_event ?hg (N := 6) ?hd (cs := #[.int .i64 0, .int .i64 0, .slice none 0 0]) (t := 51) ?hr ?_; (case hd => rfl); (case hg => rfl); (case hr => exact z11_); intro gb150 hg w15 hbox hb; have n0_ := a0_ (blk_below z62_ hb); have n1_ := a0_ (below_step z63_ hb); have n2_ := a0_ (hbox); have n3_ := a0_ ((z64_ : w.heap.size ≤ gb150)); have n4_ := a0_ ((z64_ : w.heap.size ≤ gb150)); have n5_ := a0_ ((by rw [hg]; exact Nat.ne_of_lt (blk_lt (g := gb146) (o := .cells #[.slice (some ad149) l0_0.length c0_0, .slice A0_1 l0_1.length c0_1, .int .i64 a0_2, .int .i64 a0_3] 68 (0, 0)) z62_) : gb146 ≠ gb150)); have n6_ := a0_ ((by rw [hg]; exact Nat.ne_of_gt (blk_lt (g := gb146) (o := .cells #[.slice (some ad149) l0_0.length c0_0, .slice A0_1 l0_1.length c0_1, .int .i64 a0_2, .int .i64 a0_3] 68 (0, 0)) z62_) : gb150 ≠ gb146)); clear BK146; clear HB; have BK146 := n0_; have HB := n1_; have BK150 := n2_; have GW150 := n3_; have GE150 := n4_; have NB146_150 := n5_; have NB150_146 := n6_; clear n0_ n1_ n2_ n3_ n4_ n5_ n6_; clear hb hbox hg; have hnb16 := NB150_146.out; have hnc16 := NB146_150.out; have hcz17_0 : w15.cell? ⟨gb150, 0, none⟩ = some (.int .i64 0) := (blk_cell BK150.out 0).trans rfl; have hcz17_1 : w15.cell? ⟨gb150, 1, none⟩ = some (.int .i64 0) := (blk_cell BK150.out 1).trans rfl; have hcz17_2 : w15.cell? ⟨gb150, 2, none⟩ = some (.slice none 0 0) := (blk_cell BK150.out 2).trans rfl; obtain ⟨hfz17_0, hfz17_1, hfz17_2⟩ := bf3_ BK150.out) | ((with_reducible refine gate_callee (f := 52) rfl ?_); refine goesL_ (some 23) rfl rfl Try.func52 z6_ rfl #[.slice A149_2 ((rd_T51 l0_0 x16_1).f2).length c149_2] rfl z16_ ?_; (with_reducible refine (fold_Bytes.calls k1 _ _ ((rd_T51 l0_0 x16_1).f2) t151 _ ?side1 ?side2 A14.out).mono ?_); (case side1 => exact Kd.C_below HR149_2.out z65_); (case side2 => exact HC149_2.out); rintro e w18 ⟨rfl, hb⟩; refine ⟨_, rfl, ?_⟩; replace BK146 := a0_ (blk_below (g := gb146) (o := .cells #[.slice (some ad149) l0_0.length c0_0, .slice A0_1 l0_1.length c0_1, .int .i64 a0_2, .int .i64 a0_3] 68 (0, 0)) (by (with_reducible repeat (first | refine blk_drewN ?_ _ | refine blk_drew ?_ | refine blk_alloc ?_ _)); refine blk_far ?_ NB146_150.out _; (with_reducible repeat (first | refine blk_drewN ?_ _ | refine blk_drew ?_ | refine blk_alloc ?_ _)); refine blk_far ?_ NB146_150.out _; (with_reducible repeat (first | refine blk_drewN ?_ _ | refine blk_drew ?_ | refine blk_alloc ?_ _)); refine blk_far ?_ NB146_150.out _; (with_reducible repeat (first | refine blk_drewN ?_ _ | refine blk_drew ?_ | refine blk_alloc ?_ _)); exact BK146.out) hb); replace BK150 := a0_ (blk_below (g := gb150) (o := .cells #[.int .i64 ((rd_T51 l0_0 x16_1).f0), .int .i64 ((rd_T51 l0_0 x16_1).f1), .slice A149_2 ((rd_T51 l0_0 x16_1).f2).length c149_2] 51 (0, 0)) (by (with_reducible repeat (first | refine blk_drewN ?_ _ | refine blk_drew ?_ | refine blk_alloc ?_ _)); refine blk_put (cs := #[.int .i64 ((rd_T51 l0_0 x16_1).f0), .int .i64 ((rd_T51 l0_0 x16_1).f1), .slice none 0 0]) ?_ 2 _ rfl; (with_reducible repeat (first | refine blk_drewN ?_ _ | refine blk_drew ?_ | refine blk_alloc ?_ _)); refine blk_put (cs := #[.int .i64 ((rd_T51 l0_0 x16_1).f0), .int .i64 0, .slice none 0 0]) ?_ 1 _ rfl; (with_reducible repeat (first | refine blk_drewN ?_ _ | refine blk_drew ?_ | refine blk_alloc ?_ _)); refine blk_put (cs := #[.int .i64 0, .int .i64 0, .slice none 0 0]) ?_ 0 _ rfl; (with_reducible repeat (first | refine blk_drewN ?_ _ | refine blk_drew ?_ | refine blk_alloc ?_ _)); exact BK150.out) hb); replace HB := a0_ (below_step z65_ hb); (try clear hb); (try clear hb2); (try clear hk); (try clear hi)))
       go_roundg k1
       case measure => have := HK1.out; omega
       case rel => exact ⟨(wrap64 (x4_1 + t151)), (wrap64 (x16_1 + 1)), z4_, z4_, H', ⟨z39_⟩, ⟨z62_⟩, ⟨z65_⟩⟩
      ·rw [if_neg c13] at H
       exact absurd H (by simp)
     ·rw [if_neg c12] at H
      exact absurd H (by simp)
    ·rw [if_neg c11] at H
     have c11b0 : decide (x16_1 < (l0_0.length : Int)) = false := decide_eq_false c11
     clear c11
     replace H := Option.bind_eq_some_iff.mp H
     obtain ⟨t152, A190, H⟩ := H
     try dsimp only at H
     have A19 := a0_ A190
     clear A190
     simp only [Option.some.injEq, Prod.mk.injEq] at H
     obtain ⟨rfl, rfl⟩ := H
     try go_wp2
     have n0_ := a0_ (blk_drew BK146.out)
     have n1_ := a0_ (below_drew1 HB.out)
     clear BK146
     clear HB
     have BK146 := n0_
     have HB := n1_
     clear n0_ n1_
     refine st_ 8 (S := fun w' => w'.cell? ⟨gb146, 0, none⟩ = some (.slice A0_0 l0_0.length c0_0) ∧ w'.cell? ⟨gb146, 1, none⟩ = some (.slice A0_1 l0_1.length c0_1) ∧ w'.cell? ⟨gb146, 2, none⟩ = some (.int .i64 a0_2) ∧ w'.cell? ⟨gb146, 3, none⟩ = some (.int .i64 a0_3)) (ds := []) ⟨(blk_cell BK146.out 0).trans rfl, (blk_cell BK146.out 1).trans rfl, (blk_cell BK146.out 2).trans rfl, (blk_cell BK146.out 3).trans rfl⟩ (fun hHeld => ?_); refine with_tabW queue_Load.tab9 queue_Load.bits9 (fun HT_ HW_ => ?_)
     generalize wr.drew = w20 at BK146 HB hHeld ⊢
     refine pq_ 0 (some 26) rfl rfl ?_
     refine pq_ 5 (some 31) rfl rfl ?_
     refine tq_ 1 (some 27) rfl rfl hHeld ?_
     refine tq_ 2 (some 28) rfl rfl hHeld ?_
     refine oq_ 3 (some 29) rfl rfl (fun K hK => ?_)
     refine goes_ Try.func57 z6_ rfl #[.agg #[.slice A0_0 l0_0.length c0_0, .slice A0_1 l0_1.length c0_1, .int .i64 a0_2, .int .i64 a0_3]] (by rfl) rfl rfl z16_ ?_
     with_reducible refine (queue_tail.calls _ _ l0_0 _ _ l0_1 a0_2 a0_3 t152 _ ?side1 ?side2 ?side3 ?side4 A19.out).mono ?_
     (case side1 => exact z50_)
     (case side2 => exact z51_)
     (case side3 => exact z52_)
     (case side4 => exact z53_)
     rintro e w21 ⟨rfl, hb⟩
     refine ⟨_, rfl, ?_⟩
     have n0_ := a0_ (blk_below z62_ hb)
     have n1_ := a0_ (below_step z63_ hb)
     clear BK146
     clear HB
     have BK146 := n0_
     have HB := n1_
     clear n0_ n1_
     (try clear hb)
     (try clear hb2)
     (try clear hk)
     (try clear hi)
     refine hK.out _ _ (by exact ⟨(blk_cell BK146.out 0).trans rfl, (blk_cell BK146.out 1).trans rfl, (blk_cell BK146.out 2).trans rfl, (blk_cell BK146.out 3).trans rfl⟩) (fun hHeld => ?_)
     clear hK K
     refine norm_ (a' := ?_) ?_ ?_
     rotate_left
     ·show Act.put _ (some 29) _ = _
      exact put_
     refine pq_ 4 (some 30) rfl rfl ?_
     refine pq_ 6 (some 2) rfl rfl ?_
     refine pq_ 7 (some 3) rfl rfl ?_
     refine done_ (done_of HT_.out z6_) ?_
     try go_wp2
     go_ret2
     exact ⟨z2_, z63_⟩
 ·replace c3 := Bool.eq_false_iff.mpr c3
  subst c3
  rw [if_neg (show ¬ (false = true) from z8_)] at H
  simp only [Option.some.injEq, Prod.mk.injEq] at H
  obtain ⟨rfl, rfl⟩ := H
  go_enter Try.func21, Try.ntmps21
  go_wp2_with (first | ((with_reducible refine gate_dst (N := 1) rfl ?_); refine box_event ?hg (N := 1) ?hd (cs := #[.slice A0_0 l0_0.length c0_0, .slice A0_1 l0_1.length c0_1, .int .i64 a0_2, .int .i64 a0_3]) (t := 68) ?hr ?_; (case hd => rfl); (case hg => rfl); (case hr => exact z11_); intro gb146 hg w22 hbox hb; have n0_ := a0_ (below_step z3_ hb); have n1_ := a0_ (hbox); have n2_ := a0_ ((z12_ : w.heap.size ≤ gb146)); have n3_ := a0_ ((z12_ : w.heap.size ≤ gb146)); clear HB; have HB := n0_; have BK146 := n1_; have GW146 := n2_; have GE146 := n3_; clear n0_ n1_ n2_ n3_; clear hb hbox hg; have hcz23_0 : w22.cell? ⟨gb146, 0, none⟩ = some (.slice A0_0 l0_0.length c0_0) := (blk_cell BK146.out 0).trans rfl; have hcz23_1 : w22.cell? ⟨gb146, 1, none⟩ = some (.slice A0_1 l0_1.length c0_1) := (blk_cell BK146.out 1).trans rfl; have hcz23_2 : w22.cell? ⟨gb146, 2, none⟩ = some (.int .i64 a0_2) := (blk_cell BK146.out 2).trans rfl; have hcz23_3 : w22.cell? ⟨gb146, 3, none⟩ = some (.int .i64 a0_3) := (blk_cell BK146.out 3).trans rfl; obtain ⟨hfz23_0, hfz23_1, hfz23_2, hfz23_3⟩ := bf4_ BK146.out) | ((with_reducible refine gate_callee (f := 51) rfl ?_); refine goesL_ (some 8) rfl rfl Try.func51 z6_ rfl #[.agg #[.slice A0_0 l0_0.length c0_0, .slice A0_1 l0_1.length c0_1, .int .i64 a0_2, .int .i64 a0_3]] rfl z16_ ?_; (with_reducible refine (queue_Right.calls k _ _ l0_0 _ _ l0_1 a0_2 a0_3 false _ ?side1 ?side2 ?side3 ?side4 A2.out).mono ?_); (case side1 => exact z50_); (case side2 => exact z51_); (case side3 => exact z52_); (case side4 => exact z53_); rintro e w24 ⟨rfl, hb⟩; refine ⟨_, rfl, ?_⟩; replace BK146 := a0_ (blk_below z62_ hb); replace HB := a0_ (below_step z63_ hb); (try clear hb); (try clear hb2); (try clear hk); (try clear hi)))
  go_ret2
  exact ⟨z2_, z63_⟩
end Go.Proofs.Ytecfndblgefhdaa.R
