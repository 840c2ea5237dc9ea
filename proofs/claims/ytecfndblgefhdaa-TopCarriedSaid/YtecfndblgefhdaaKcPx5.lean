import Derived.Test.YtecfndblgefhdaaKcPx1
namespace Go.Proofs.Ytecfndblgefhdaa.P
open Go.RowKit Go.Proofs.YtecfndblgefhdaaW.PrintWords Go.Proofs.YtecfndblgefhdaaW.PrintLast Go.Proofs.YtecfndblgefhdaaW.PrintMore
attribute [local go_sem] max2_int min2_int max_two min_two max_three min_three max_four min_four
set_option linter.unusedVariables false
set_option linter.unusedSimpArgs false
theorem qpx50_ {p : Prop} (h : p := by exact ⟨z3_, z47_⟩) : p := h
def line_Placed.f (k : Nat) (l0_0 : List (S160)) (a0_1 : Int) : Option (Bool) := (line_Right.f k l0_0).bind fun t141 => (if t141 = true then (if 0 ≤ (wrap64 ((l0_0.length : Int) - 1)) then (if (wrap64 ((l0_0.length : Int) - 1)) < (l0_0.length : Int) then (if a0_1 ≥ ((rd_T160 l0_0 (wrap64 ((l0_0.length : Int) - 1))).f1) then (some (decide (a0_1 ≤ 1099511627776))) else (some false)) else (none)) else (none)) else (some false))
def line_Placed.T1 : Bool × List (List Nat × List Nat) := (true, [([], []), ([0], [0]), ([1], [1]), ([2, 2], [2]), ([3], [3]), ([4, 3], [3, 4]), ([3], [3]), ([6, 3], [3, 6]), ([3], [3]), ([8, 3], [3, 8]), ([9, 3], [3, 9]), ([10, 3], [3, 10]), ([7, 11, 3], [3, 7, 11]), ([12, 3], [3, 12]), ([13, 3], [3, 13]), ([5, 14, 3], [3, 5, 14]), ([3, 15], [3, 15]), ([16, 3], [16]), ([17], [17]), ([18, 17], [17, 18]), ([19, 17], [17, 19]), ([17, 20], [17, 20]), ([21, 17, 0, 1, 2, 3, 4, 5, 6, 7, 8, 9, 10, 11, 12, 13, 14, 15, 16, 17, 18, 19, 20, 21], [21])])
def line_Placed.B1 : List Nat := [0, 1, 3, 7, 15, 31, 15, 79, 15, 271, 783, 1807, 4047, 8143, 16335, 32767, 65535, 131071, 262143, 524287, 1048575, 2097151, 4194303]
theorem line_Placed.tab1 : rtab .any (opsOf Try.f101 1) = line_Placed.T1 := by kernel_rfl
theorem line_Placed.bits1 : waitsOk line_Placed.T1.2 line_Placed.B1 = true := by kernel_rfl
set_option maxHeartbeats 8000000 in
set_option maxRecDepth 100000 in
theorem line_Placed.calls (k : Nat) (A0_0 : Option Addr) (c0_0 : Nat) (l0_0 : List (S160)) (a0_1 : Int) (r : Bool) (w : World) (hr0_0 : Kd.C k160 w A0_0 l0_0.length l0_0) (hc0_0 : l0_0.length ≤ c0_0) (h : line_Placed.f k l0_0 a0_1 = some r) :
  Calls Try.prog 101 #[.agg #[.slice A0_0 l0_0.length c0_0, .int .i64 a0_1]] w fun e w' => e = .returned (.bool r) ∧ Below w.heap.size w w' := by
 have hu46 := Try.underlying46
 have HR0_0 := a0_ hr0_0
 have HC0_0 := a0_ hc0_0
 clear hr0_0 hc0_0
 have HB := a0_ (Below.refl w.heap.size w)
 have H : ((line_Right.f k l0_0).bind fun t141 => (if t141 = true then (if 0 ≤ (wrap64 ((l0_0.length : Int) - 1)) then (if (wrap64 ((l0_0.length : Int) - 1)) < (l0_0.length : Int) then (if a0_1 ≥ ((rd_T160 l0_0 (wrap64 ((l0_0.length : Int) - 1))).f1) then (some (decide (a0_1 ≤ 1099511627776))) else (some false)) else (none)) else (none)) else (some false))) = some r := h
 clear h
 replace H := Option.bind_eq_some_iff.mp H
 obtain ⟨t141, A20, H⟩ := H
 try dsimp only at H
 have A2 := a0_ A20
 clear A20
 by_cases c3 : t141 = true
 ·subst c3
  rw [if_pos rfl] at H
  obtain ⟨ji4, hji4⟩ : ∃ j_ : Int, (wrap64 ((l0_0.length : Int) - 1)) = j_ := ⟨_, rfl⟩
  replace H : (if 0 ≤ (ji4) then (if (ji4) < (l0_0.length : Int) then (if a0_1 ≥ ((rd_T160 l0_0 (ji4)).f1) then (some (decide (a0_1 ≤ 1099511627776))) else (some false)) else (none)) else (none)) = some r := by first | (rw [hji4] at H; exact H) | (simp only [hji4] at H ⊢; exact H)
  (try rw [hji4] at A2)
  have hji4w : (IntKind.i64.wrap ((l0_0.length : Int) - 1)) = ji4 := (i64_w _).trans hji4
  by_cases c5 : 0 ≤ (ji4)
  ·rw [if_pos c5] at H
   have c5b0 : decide (0 ≤ (ji4)) = true := decide_eq_true c5
   clear c5
   by_cases c6 : (ji4) < (l0_0.length : Int)
   ·rw [if_pos c6] at H
    have c6b0 : decide ((ji4) < (l0_0.length : Int)) = true := decide_eq_true c6
    clear c6
    by_cases c7 : a0_1 ≥ ((rd_T160 l0_0 (ji4)).f1)
    ·rw [if_pos c7] at H
     have c7b0 : decide (((rd_T160 l0_0 (ji4)).f1) ≤ a0_1) = true := decide_eq_true c7
     clear c7
     obtain rfl := Option.some.inj H
     go_enter Try.func101, Try.ntmps101
     try go_wp2_with (first | ((with_reducible refine gate_dst (N := 1) rfl ?_); (try (refine gate_guard (by rfl) ?_; dsimp only)); refine box_event ?hg (N := 1) ?hd (cs := #[.slice A0_0 l0_0.length c0_0, .int .i64 a0_1]) (t := 46) ?hr ?_; (case hd => rfl); (case hg => rfl); (case hr => exact z7_); intro gb140 hg w8 hbox hb; have n0_ := a0_ (below_step z6_ hb); have n1_ := a0_ (hbox); have n2_ := a0_ ((z8_ : w.heap.size ≤ gb140)); have n3_ := a0_ ((z8_ : w.heap.size ≤ gb140)); clear HB; have HB := n0_; have BK140 := n1_; have GW140 := n2_; have GE140 := n3_; clear n0_ n1_ n2_ n3_; clear hb hbox hg))
     have n0_ := a0_ (blk_drew BK140.out)
     have n1_ := a0_ (below_drew1 HB.out)
     clear BK140
     clear HB
     have BK140 := n0_
     have HB := n1_
     clear n0_ n1_
     have p142 : 0 ≤ ((ji4) : Int) := of_decide_eq_true z19_
     have q142 : (ji4) < (l0_0.length : Int) := of_decide_eq_true z19_
     obtain ⟨ad142, e142, hx142_0, hx142_1⟩ := at_T160 HR0_0.out (ji4) p142 q142
     have hw142_1 := hx142_1
     have hw142_0 := hx142_0
     cases e142
     replace hx142_0 := (HB.out.cell (World.block_lt_of_cell? w _ hx142_0)).trans hx142_0
     replace hx142_1 := (HB.out.cell (World.block_lt_of_cell? w _ hx142_1)).trans hx142_1
     replace p142 := eq_true p142
     replace q142 := eq_true q142
     refine st_ 23 (S := fun w' => w'.cell? ⟨gb140, 0, none⟩ = some (.slice (some ad142) l0_0.length c0_0) ∧ w'.cell? ⟨gb140, 1, none⟩ = some (.int .i64 a0_1) ∧ w'.cell? (ad142.add (((ji4)).toNat * 2)) = some (.int .i64 ((rd_T160 l0_0 (ji4)).f0)) ∧ w'.cell? ⟨(ad142.add (((ji4)).toNat * 2)).block, (ad142.add (((ji4)).toNat * 2)).off + 1, none⟩ = some (.int .i64 ((rd_T160 l0_0 (ji4)).f1))) (ds := []) ⟨(blk_cell BK140.out 0).trans rfl, (blk_cell BK140.out 1).trans rfl, ((HB.out.cell (World.block_lt_of_cell? w _ hw142_0)).trans hw142_0), ((HB.out.cell (World.block_lt_of_cell? w _ hw142_1)).trans hw142_1)⟩ (fun hHeld => ?_); refine with_tabW line_Placed.tab1 line_Placed.bits1 (fun HT_ HW_ => ?_)
     generalize w8.drew = w9 at BK140 HB hx142_0 hx142_1 hHeld ⊢
     refine pq_ 0 (some 3) rfl rfl ?_
     refine tq_ 1 (some 4) rfl rfl hHeld ?_
     refine oq_ 2 (some 5) rfl rfl (fun K hK => ?_)
     refine goes_ Try.func72 z11_ rfl #[.slice (some ad142) l0_0.length c0_0] (by rfl) rfl rfl z12_ ?_
     with_reducible refine (line_Right.calls k _ _ l0_0 true _ ?side1 ?side2 A2.out).mono ?_
     (case side1 => exact z48_)
     (case side2 => exact z49_)
     rintro e w10 ⟨rfl, hb⟩
     refine ⟨_, rfl, ?_⟩
     have n0_ := a0_ (blk_below z50_ hb)
     have n1_ := a0_ (below_step z51_ hb)
     clear BK140
     clear HB
     have BK140 := n0_
     have HB := n1_
     clear n0_ n1_
     (try clear hb)
     (try clear hb2)
     (try clear hk)
     (try clear hi)
     refine hK.out _ _ ⟨(blk_cell BK140.out 0).trans rfl, (blk_cell BK140.out 1).trans rfl, ((HB.out.cell (World.block_lt_of_cell? w _ hw142_0)).trans hw142_0), ((HB.out.cell (World.block_lt_of_cell? w _ hw142_1)).trans hw142_1)⟩ (fun hHeld => ?_)
     clear hK K
     refine norm_ (a' := ?_) ?_ ?_
     rotate_left
     ·show Act.put _ (some 5) _ = _
      exact put_
     refine pq_ 3 (some 6) rfl rfl ?_
     refine pq_ 4 (some 7) rfl rfl ?_
     refine pq_ 6 (some 9) rfl rfl ?_
     refine pq_ 8 (some 11) rfl rfl ?_
     refine tq_ 5 (some 8) rfl rfl hHeld ?_
     refine tq_ 7 (some 10) rfl rfl hHeld ?_
     refine tq_ 9 (some 12) rfl rfl hHeld ?_
     refine pq_ 10 (some 13) rfl rfl ?_
     refine pq_ 11 (some 14) rfl rfl ?_
     refine pq_ 12 (some 15) rfl rfl ?_
     refine pq_ 13 (some 16) rfl rfl ?_
     refine tq_ 14 (some 17) rfl rfl hHeld ?_
     refine pq_ 15 (some 18) rfl rfl ?_
     refine pq_ 16 (some 19) rfl rfl ?_
     refine pq_ 17 (some 20) rfl rfl ?_
     refine pq_ 18 (some 21) rfl rfl ?_
     refine tq_ 19 (some 22) rfl rfl hHeld ?_
     refine pq_ 20 (some 23) rfl rfl ?_
     refine pq_ 21 (some 24) rfl rfl ?_
     refine pq_ 22 (some 2) rfl rfl ?_
     refine done_ (done_of HT_.out z11_) ?_
     try go_wp2
     go_ret
     exact ⟨z28_, z51_⟩
    ·rw [if_neg c7] at H
     have c7b0 : decide (((rd_T160 l0_0 (ji4)).f1) ≤ a0_1) = false := decide_eq_false c7
     clear c7
     obtain rfl := Option.some.inj H
     go_enter Try.func101, Try.ntmps101
     try go_wp2_with (first | ((with_reducible refine gate_dst (N := 1) rfl ?_); (try (refine gate_guard (by rfl) ?_; dsimp only)); refine box_event ?hg (N := 1) ?hd (cs := #[.slice A0_0 l0_0.length c0_0, .int .i64 a0_1]) (t := 46) ?hr ?_; (case hd => rfl); (case hg => rfl); (case hr => exact z7_); intro gb140 hg w11 hbox hb; have n0_ := a0_ (below_step z6_ hb); have n1_ := a0_ (hbox); have n2_ := a0_ ((z8_ : w.heap.size ≤ gb140)); have n3_ := a0_ ((z8_ : w.heap.size ≤ gb140)); clear HB; have HB := n0_; have BK140 := n1_; have GW140 := n2_; have GE140 := n3_; clear n0_ n1_ n2_ n3_; clear hb hbox hg))
     have n0_ := a0_ (blk_drew BK140.out)
     have n1_ := a0_ (below_drew1 HB.out)
     clear BK140
     clear HB
     have BK140 := n0_
     have HB := n1_
     clear n0_ n1_
     have p142 : 0 ≤ ((ji4) : Int) := of_decide_eq_true z19_
     have q142 : (ji4) < (l0_0.length : Int) := of_decide_eq_true z19_
     obtain ⟨ad142, e142, hx142_0, hx142_1⟩ := at_T160 HR0_0.out (ji4) p142 q142
     have hw142_1 := hx142_1
     have hw142_0 := hx142_0
     cases e142
     replace hx142_0 := (HB.out.cell (World.block_lt_of_cell? w _ hx142_0)).trans hx142_0
     replace hx142_1 := (HB.out.cell (World.block_lt_of_cell? w _ hx142_1)).trans hx142_1
     replace p142 := eq_true p142
     replace q142 := eq_true q142
     refine st_ 23 (S := fun w' => w'.cell? ⟨gb140, 0, none⟩ = some (.slice (some ad142) l0_0.length c0_0) ∧ w'.cell? ⟨gb140, 1, none⟩ = some (.int .i64 a0_1) ∧ w'.cell? (ad142.add (((ji4)).toNat * 2)) = some (.int .i64 ((rd_T160 l0_0 (ji4)).f0)) ∧ w'.cell? ⟨(ad142.add (((ji4)).toNat * 2)).block, (ad142.add (((ji4)).toNat * 2)).off + 1, none⟩ = some (.int .i64 ((rd_T160 l0_0 (ji4)).f1))) (ds := []) ⟨(blk_cell BK140.out 0).trans rfl, (blk_cell BK140.out 1).trans rfl, ((HB.out.cell (World.block_lt_of_cell? w _ hw142_0)).trans hw142_0), ((HB.out.cell (World.block_lt_of_cell? w _ hw142_1)).trans hw142_1)⟩ (fun hHeld => ?_); refine with_tabW line_Placed.tab1 line_Placed.bits1 (fun HT_ HW_ => ?_)
     generalize w11.drew = w12 at BK140 HB hx142_0 hx142_1 hHeld ⊢
     refine pq_ 0 (some 3) rfl rfl ?_
     refine tq_ 1 (some 4) rfl rfl hHeld ?_
     refine oq_ 2 (some 5) rfl rfl (fun K hK => ?_)
     refine goes_ Try.func72 z11_ rfl #[.slice (some ad142) l0_0.length c0_0] (by rfl) rfl rfl z12_ ?_
     with_reducible refine (line_Right.calls k _ _ l0_0 true _ ?side1 ?side2 A2.out).mono ?_
     (case side1 => exact z48_)
     (case side2 => exact z49_)
     rintro e w13 ⟨rfl, hb⟩
     refine ⟨_, rfl, ?_⟩
     have n0_ := a0_ (blk_below z50_ hb)
     have n1_ := a0_ (below_step z51_ hb)
     clear BK140
     clear HB
     have BK140 := n0_
     have HB := n1_
     clear n0_ n1_
     (try clear hb)
     (try clear hb2)
     (try clear hk)
     (try clear hi)
     refine hK.out _ _ ⟨(blk_cell BK140.out 0).trans rfl, (blk_cell BK140.out 1).trans rfl, ((HB.out.cell (World.block_lt_of_cell? w _ hw142_0)).trans hw142_0), ((HB.out.cell (World.block_lt_of_cell? w _ hw142_1)).trans hw142_1)⟩ (fun hHeld => ?_)
     clear hK K
     refine norm_ (a' := ?_) ?_ ?_
     rotate_left
     ·show Act.put _ (some 5) _ = _
      exact put_
     refine pq_ 3 (some 6) rfl rfl ?_
     refine pq_ 4 (some 7) rfl rfl ?_
     refine pq_ 6 (some 9) rfl rfl ?_
     refine pq_ 8 (some 11) rfl rfl ?_
     refine tq_ 5 (some 8) rfl rfl hHeld ?_
     refine tq_ 7 (some 10) rfl rfl hHeld ?_
     refine tq_ 9 (some 12) rfl rfl hHeld ?_
     refine pq_ 10 (some 13) rfl rfl ?_
     refine pq_ 11 (some 14) rfl rfl ?_
     refine pq_ 12 (some 15) rfl rfl ?_
     refine pq_ 13 (some 16) rfl rfl ?_
     refine tq_ 14 (some 17) rfl rfl hHeld ?_
     refine pq_ 15 (some 18) rfl rfl ?_
     refine pq_ 16 (some 19) rfl rfl ?_
     refine pq_ 17 (some 20) rfl rfl ?_
     refine pw_ 18 (some 21) rfl rfl ?_
     refine pw_ 19 (some 22) rfl rfl ?_
     refine pw_ 20 (some 23) rfl rfl ?_
     refine pq_ 21 (some 24) rfl rfl ?_
     refine pq_ 22 (some 2) rfl rfl ?_
     refine done_ (done_of HT_.out z11_) ?_
     try go_wp2
     go_ret
     exact ⟨z28_, z51_⟩
   ·rw [if_neg c6] at H
    exact absurd H (by simp)
  ·rw [if_neg c5] at H
   exact absurd H (by simp)
 ·replace c3 := Bool.eq_false_iff.mpr c3
  subst c3
  rw [if_neg (show ¬ (false = true) from z17_)] at H
  obtain rfl := Option.some.inj H
  go_enter Try.func101, Try.ntmps101
  try go_wp2_with (first | ((with_reducible refine gate_dst (N := 1) rfl ?_); (try (refine gate_guard (by rfl) ?_; dsimp only)); refine box_event ?hg (N := 1) ?hd (cs := #[.slice A0_0 l0_0.length c0_0, .int .i64 a0_1]) (t := 46) ?hr ?_; (case hd => rfl); (case hg => rfl); (case hr => exact z7_); intro gb140 hg w14 hbox hb; have n0_ := a0_ (below_step z6_ hb); have n1_ := a0_ (hbox); have n2_ := a0_ ((z8_ : w.heap.size ≤ gb140)); have n3_ := a0_ ((z8_ : w.heap.size ≤ gb140)); clear HB; have HB := n0_; have BK140 := n1_; have GW140 := n2_; have GE140 := n3_; clear n0_ n1_ n2_ n3_; clear hb hbox hg))
  have n0_ := a0_ (blk_drew BK140.out)
  have n1_ := a0_ (below_drew1 HB.out)
  clear BK140
  clear HB
  have BK140 := n0_
  have HB := n1_
  clear n0_ n1_
  refine st_ 23 (S := fun w' => w'.cell? ⟨gb140, 0, none⟩ = some (.slice A0_0 l0_0.length c0_0) ∧ w'.cell? ⟨gb140, 1, none⟩ = some (.int .i64 a0_1)) (ds := []) ⟨(blk_cell BK140.out 0).trans rfl, (blk_cell BK140.out 1).trans rfl⟩ (fun hHeld => ?_); refine with_tabW line_Placed.tab1 line_Placed.bits1 (fun HT_ HW_ => ?_)
  generalize w14.drew = w15 at BK140 HB hHeld ⊢
  refine pq_ 0 (some 3) rfl rfl ?_
  refine tq_ 1 (some 4) rfl rfl hHeld ?_
  refine oq_ 2 (some 5) rfl rfl (fun K hK => ?_)
  refine goes_ Try.func72 z11_ rfl #[.slice A0_0 l0_0.length c0_0] (by rfl) rfl rfl z12_ ?_
  with_reducible refine (line_Right.calls k _ _ l0_0 false _ ?side1 ?side2 A2.out).mono ?_
  (case side1 => exact z48_)
  (case side2 => exact z49_)
  rintro e w16 ⟨rfl, hb⟩
  refine ⟨_, rfl, ?_⟩
  have n0_ := a0_ (blk_below z50_ hb)
  have n1_ := a0_ (below_step z51_ hb)
  clear BK140
  clear HB
  have BK140 := n0_
  have HB := n1_
  clear n0_ n1_
  (try clear hb)
  (try clear hb2)
  (try clear hk)
  (try clear hi)
  refine hK.out _ _ (by exact ⟨(blk_cell BK140.out 0).trans rfl, (blk_cell BK140.out 1).trans rfl⟩) (fun hHeld => ?_)
  clear hK K
  refine norm_ (a' := ?_) ?_ ?_
  rotate_left
  ·show Act.put _ (some 5) _ = _
   exact put_
  refine pq_ 3 (some 6) rfl rfl ?_
  refine pw_ 4 (some 7) rfl rfl ?_
  refine pw_ 5 (some 8) rfl rfl ?_
  refine pw_ 6 (some 9) rfl rfl ?_
  refine pw_ 7 (some 10) rfl rfl ?_
  refine pw_ 8 (some 11) rfl rfl ?_
  refine pw_ 9 (some 12) rfl rfl ?_
  refine pw_ 10 (some 13) rfl rfl ?_
  refine pw_ 11 (some 14) rfl rfl ?_
  refine pw_ 12 (some 15) rfl rfl ?_
  refine pw_ 13 (some 16) rfl rfl ?_
  refine pw_ 14 (some 17) rfl rfl ?_
  refine pw_ 15 (some 18) rfl rfl ?_
  refine pq_ 16 (some 19) rfl rfl ?_
  refine pq_ 17 (some 20) rfl rfl ?_
  refine pw_ 18 (some 21) rfl rfl ?_
  refine pw_ 19 (some 22) rfl rfl ?_
  refine pw_ 20 (some 23) rfl rfl ?_
  refine pq_ 21 (some 24) rfl rfl ?_
  refine pq_ 22 (some 2) rfl rfl ?_
  refine done_ (done_of HT_.out z11_) ?_
  try go_wp2
  go_ret
  exact ⟨z3_, z51_⟩
def msg_placed.f (k : Nat) (l0_0 : List (S160)) (a0_1 : Int) : Option (Bool) := if (l0_0.length : Int) = 0 then (if a0_1 = 0 then (some true) else ((line_Placed.f k l0_0 a0_1).bind fun t144 => (some t144))) else ((line_Placed.f k l0_0 a0_1).bind fun t145 => (some t145))
set_option maxHeartbeats 8000000 in
set_option maxRecDepth 100000 in
theorem msg_placed.calls (k : Nat) (A0_0 : Option Addr) (c0_0 : Nat) (l0_0 : List (S160)) (a0_1 : Int) (r : Bool) (w : World) (hr0_0 : Kd.C k160 w A0_0 l0_0.length l0_0) (hc0_0 : l0_0.length ≤ c0_0) (h : msg_placed.f k l0_0 a0_1 = some r) :
  Calls Try.prog 79 #[.agg #[.slice A0_0 l0_0.length c0_0, .int .i64 a0_1]] w fun e w' => e = .returned (.bool r) ∧ Below w.heap.size w w' := by
 have hu46 := Try.underlying46
 have HR0_0 := a0_ hr0_0
 have HC0_0 := a0_ hc0_0
 clear hr0_0 hc0_0
 have HB := a0_ (Below.refl w.heap.size w)
 have H : (if (l0_0.length : Int) = 0 then (if a0_1 = 0 then (some true) else ((line_Placed.f k l0_0 a0_1).bind fun t144 => (some t144))) else ((line_Placed.f k l0_0 a0_1).bind fun t145 => (some t145))) = some r := h
 clear h
 by_cases c2 : (l0_0.length : Int) = 0
 ·rw [if_pos c2] at H
  have c2b0 : ((l0_0.length : Int) == 0) = true := beq_iff_eq.mpr c2
  have c2b1 : ((l0_0.length : Int) != 0) = false := bne_eq_false_iff_eq.mpr c2
  clear c2
  by_cases c3 : a0_1 = 0
  ·rw [if_pos c3] at H
   have c3b0 : (a0_1 == 0) = true := beq_iff_eq.mpr c3
   have c3b1 : (a0_1 != 0) = false := bne_eq_false_iff_eq.mpr c3
   clear c3
   obtain rfl := Option.some.inj H
   go_enter Try.func79, Try.ntmps79
   go_wp2_with (first | ((with_reducible refine gate_dst (N := 1) rfl ?_); refine box_event ?hg (N := 1) ?hd (cs := #[.slice A0_0 l0_0.length c0_0, .int .i64 a0_1]) (t := 46) ?hr ?_; (case hd => rfl); (case hg => rfl); (case hr => exact z7_); intro gb143 hg w4 hbox hb; have n0_ := a0_ (below_step z6_ hb); have n1_ := a0_ (hbox); have n2_ := a0_ ((z8_ : w.heap.size ≤ gb143)); have n3_ := a0_ ((z8_ : w.heap.size ≤ gb143)); clear HB; have HB := n0_; have BK143 := n1_; have GW143 := n2_; have GE143 := n3_; clear n0_ n1_ n2_ n3_; clear hb hbox hg; have hcz5_0 := blk_cell BK143.out 0; have hcz5_1 := blk_cell BK143.out 1; have hfz5_0 := blk_frozen BK143.out 0; have hfz5_1 := blk_frozen BK143.out 1))
   go_ret
   exact qpx50_
  ·rw [if_neg c3] at H
   have c3b0 : (a0_1 == 0) = false := beq_eq_false_iff_ne.mpr c3
   have c3b1 : (a0_1 != 0) = true := bne_iff_ne.mpr c3
   replace H := Option.bind_eq_some_iff.mp H
   obtain ⟨t144, A60, H⟩ := H
   try dsimp only at H
   have A6 := a0_ A60
   clear A60
   obtain rfl := Option.some.inj H
   go_enter Try.func79, Try.ntmps79
   go_wp2_with (first | ((with_reducible refine gate_dst (N := 1) rfl ?_); refine box_event ?hg (N := 1) ?hd (cs := #[.slice A0_0 l0_0.length c0_0, .int .i64 a0_1]) (t := 46) ?hr ?_; (case hd => rfl); (case hg => rfl); (case hr => exact z7_); intro gb143 hg w7 hbox hb; have n0_ := a0_ (below_step z6_ hb); have n1_ := a0_ (hbox); have n2_ := a0_ ((z8_ : w.heap.size ≤ gb143)); have n3_ := a0_ ((z8_ : w.heap.size ≤ gb143)); clear HB; have HB := n0_; have BK143 := n1_; have GW143 := n2_; have GE143 := n3_; clear n0_ n1_ n2_ n3_; clear hb hbox hg; have hcz8_0 := blk_cell BK143.out 0; have hcz8_1 := blk_cell BK143.out 1; have hfz8_0 := blk_frozen BK143.out 0; have hfz8_1 := blk_frozen BK143.out 1) | (go_at_call 101; (with_reducible refine (line_Placed.calls k _ _ l0_0 a0_1 t144 _ ?side1 ?side2 A6.out).mono ?_); (case side1 => exact z48_); (case side2 => exact z49_); rintro e w9 ⟨rfl, hb⟩; replace BK143 := a0_ (blk_below z52_ hb); replace HB := a0_ (below_step z47_ hb); (try clear hb); (try clear hb2); (try clear hk); (try clear hi)))
   go_ret
   exact qpx50_
 ·rw [if_neg c2] at H
  have c2b0 : ((l0_0.length : Int) == 0) = false := beq_eq_false_iff_ne.mpr c2
  have c2b1 : ((l0_0.length : Int) != 0) = true := bne_iff_ne.mpr c2
  have c2b2 : ¬ (l0_0 = []) := fun h_ => c2 (by rw [h_]; rfl)
  replace H := Option.bind_eq_some_iff.mp H
  obtain ⟨t145, A100, H⟩ := H
  try dsimp only at H
  have A10 := a0_ A100
  clear A100
  obtain rfl := Option.some.inj H
  go_enter Try.func79, Try.ntmps79
  go_wp2_with (first | ((with_reducible refine gate_dst (N := 1) rfl ?_); refine box_event ?hg (N := 1) ?hd (cs := #[.slice A0_0 l0_0.length c0_0, .int .i64 a0_1]) (t := 46) ?hr ?_; (case hd => rfl); (case hg => rfl); (case hr => exact z7_); intro gb143 hg w11 hbox hb; have n0_ := a0_ (below_step z6_ hb); have n1_ := a0_ (hbox); have n2_ := a0_ ((z8_ : w.heap.size ≤ gb143)); have n3_ := a0_ ((z8_ : w.heap.size ≤ gb143)); clear HB; have HB := n0_; have BK143 := n1_; have GW143 := n2_; have GE143 := n3_; clear n0_ n1_ n2_ n3_; clear hb hbox hg; have hcz12_0 := blk_cell BK143.out 0; have hcz12_1 := blk_cell BK143.out 1; have hfz12_0 := blk_frozen BK143.out 0; have hfz12_1 := blk_frozen BK143.out 1) | (go_at_call 101; (with_reducible refine (line_Placed.calls k _ _ l0_0 a0_1 t145 _ ?side1 ?side2 A10.out).mono ?_); (case side1 => exact z48_); (case side2 => exact z49_); rintro e w13 ⟨rfl, hb⟩; replace BK143 := a0_ (blk_below z52_ hb); replace HB := a0_ (below_step z47_ hb); (try clear hb); (try clear hb2); (try clear hk); (try clear hi)))
  go_ret
  exact qpx50_
end Go.Proofs.Ytecfndblgefhdaa.P
