import Derived.Test.YtecfndblgefhdaaKcPx1
namespace Go.Proofs.Ytecfndblgefhdaa.P
open Go.RowKit Go.Proofs.YtecfndblgefhdaaW.PrintWords Go.Proofs.YtecfndblgefhdaaW.PrintLast Go.Proofs.YtecfndblgefhdaaW.PrintMore
attribute [local go_sem] max2_int min2_int max_two min_two max_three min_three max_four min_four
set_option linter.unusedVariables false
set_option linter.unusedSimpArgs false
def cmp_Compare_int.f (a0 : Int) (a1 : Int) : Option (Int) := (cmp_isNaN_int.f a0).bind fun t110 => ((cmp_isNaN_int.f a1).bind fun t111 => (if t110 = true then (if t111 = true then (some 0) else (some (-1))) else (if t111 = true then (some 1) else (if a0 < a1 then (some (-1)) else (if a0 > a1 then (some 1) else (some 0))))))
set_option maxHeartbeats 8000000 in
set_option maxRecDepth 100000 in
theorem cmp_Compare_int.calls (a0 : Int) (a1 : Int) (r : Int) (w : World) (h : cmp_Compare_int.f a0 a1 = some r) :
  Calls Try.prog 110 #[.int .i64 a0, .int .i64 a1] w fun e w' => e = .returned (.int .i64 r) ∧ Drawn0 w w' := by
 have H : ((cmp_isNaN_int.f a0).bind fun t110 => ((cmp_isNaN_int.f a1).bind fun t111 => (if t110 = true then (if t111 = true then (some 0) else (some (-1))) else (if t111 = true then (some 1) else (if a0 < a1 then (some (-1)) else (if a0 > a1 then (some 1) else (some 0))))))) = some r := h
 clear h
 replace H := Option.bind_eq_some_iff.mp H
 obtain ⟨t110, A30, H⟩ := H
 try dsimp only at H
 have A3 := a0_ A30
 clear A30
 replace H := Option.bind_eq_some_iff.mp H
 obtain ⟨t111, A40, H⟩ := H
 try dsimp only at H
 have A4 := a0_ A40
 clear A40
 by_cases c5 : t110 = true
 ·subst c5
  rw [if_pos rfl] at H
  by_cases c6 : t111 = true
  ·subst c6
   rw [if_pos rfl] at H
   obtain rfl := Option.some.inj H
   go_enter Try.func110, Try.ntmps110
   go_wp2_with (first | ((with_reducible refine gate_callee (f := 117) rfl ?_); refine goesL_ (some 8) rfl rfl Try.func117 z11_ rfl #[.int .i64 a0] rfl z12_ ?_; (with_reducible refine (cmp_isNaN_int.calls a0 true _ A3.out).mono ?_); rintro e w' ⟨rfl, ⟨nd, rfl⟩⟩; refine ⟨_, rfl, ?_⟩) | ((with_reducible refine gate_callee (f := 117) rfl ?_); refine goesL_ (some 10) rfl rfl Try.func117 z11_ rfl #[.int .i64 a1] rfl z12_ ?_; (with_reducible refine (cmp_isNaN_int.calls a1 true _ A4.out).mono ?_); rintro e w' ⟨rfl, ⟨nd, rfl⟩⟩; refine ⟨_, rfl, ?_⟩))
   go_ret
   exact ⟨z9_, z10_⟩
  ·replace c6 := Bool.eq_false_iff.mpr c6
   subst c6
   rw [if_neg (show ¬ (false = true) from z17_)] at H
   obtain rfl := Option.some.inj H
   go_enter Try.func110, Try.ntmps110
   go_wp2_with (first | ((with_reducible refine gate_callee (f := 117) rfl ?_); refine goesL_ (some 8) rfl rfl Try.func117 z11_ rfl #[.int .i64 a0] rfl z12_ ?_; (with_reducible refine (cmp_isNaN_int.calls a0 true _ A3.out).mono ?_); rintro e w' ⟨rfl, ⟨nd, rfl⟩⟩; refine ⟨_, rfl, ?_⟩) | ((with_reducible refine gate_callee (f := 117) rfl ?_); refine goesL_ (some 10) rfl rfl Try.func117 z11_ rfl #[.int .i64 a1] rfl z12_ ?_; (with_reducible refine (cmp_isNaN_int.calls a1 false _ A4.out).mono ?_); rintro e w' ⟨rfl, ⟨nd, rfl⟩⟩; refine ⟨_, rfl, ?_⟩))
   go_ret
   exact ⟨z9_, z10_⟩
 ·replace c5 := Bool.eq_false_iff.mpr c5
  subst c5
  rw [if_neg (show ¬ (false = true) from z17_)] at H
  by_cases c7 : t111 = true
  ·subst c7
   rw [if_pos rfl] at H
   obtain rfl := Option.some.inj H
   go_enter Try.func110, Try.ntmps110
   go_wp2_with (first | ((with_reducible refine gate_callee (f := 117) rfl ?_); refine goesL_ (some 8) rfl rfl Try.func117 z11_ rfl #[.int .i64 a0] rfl z12_ ?_; (with_reducible refine (cmp_isNaN_int.calls a0 false _ A3.out).mono ?_); rintro e w' ⟨rfl, ⟨nd, rfl⟩⟩; refine ⟨_, rfl, ?_⟩) | ((with_reducible refine gate_callee (f := 117) rfl ?_); refine goesL_ (some 10) rfl rfl Try.func117 z11_ rfl #[.int .i64 a1] rfl z12_ ?_; (with_reducible refine (cmp_isNaN_int.calls a1 true _ A4.out).mono ?_); rintro e w' ⟨rfl, ⟨nd, rfl⟩⟩; refine ⟨_, rfl, ?_⟩))
   go_ret
   exact ⟨z9_, z10_⟩
  ·replace c7 := Bool.eq_false_iff.mpr c7
   subst c7
   rw [if_neg (show ¬ (false = true) from z17_)] at H
   by_cases c8 : a0 < a1
   ·rw [if_pos c8] at H
    have c8b0 : decide (a0 < a1) = true := decide_eq_true c8
    clear c8
    obtain rfl := Option.some.inj H
    go_enter Try.func110, Try.ntmps110
    go_wp2_with (first | ((with_reducible refine gate_callee (f := 117) rfl ?_); refine goesL_ (some 8) rfl rfl Try.func117 z11_ rfl #[.int .i64 a0] rfl z12_ ?_; (with_reducible refine (cmp_isNaN_int.calls a0 false _ A3.out).mono ?_); rintro e w' ⟨rfl, ⟨nd, rfl⟩⟩; refine ⟨_, rfl, ?_⟩) | ((with_reducible refine gate_callee (f := 117) rfl ?_); refine goesL_ (some 10) rfl rfl Try.func117 z11_ rfl #[.int .i64 a1] rfl z12_ ?_; (with_reducible refine (cmp_isNaN_int.calls a1 false _ A4.out).mono ?_); rintro e w' ⟨rfl, ⟨nd, rfl⟩⟩; refine ⟨_, rfl, ?_⟩))
    go_ret
    exact ⟨z9_, z10_⟩
   ·rw [if_neg c8] at H
    have c8b0 : decide (a0 < a1) = false := decide_eq_false c8
    clear c8
    by_cases c9 : a0 > a1
    ·rw [if_pos c9] at H
     have c9b0 : decide (a1 < a0) = true := decide_eq_true c9
     clear c9
     obtain rfl := Option.some.inj H
     go_enter Try.func110, Try.ntmps110
     go_wp2_with (first | ((with_reducible refine gate_callee (f := 117) rfl ?_); refine goesL_ (some 8) rfl rfl Try.func117 z11_ rfl #[.int .i64 a0] rfl z12_ ?_; (with_reducible refine (cmp_isNaN_int.calls a0 false _ A3.out).mono ?_); rintro e w' ⟨rfl, ⟨nd, rfl⟩⟩; refine ⟨_, rfl, ?_⟩) | ((with_reducible refine gate_callee (f := 117) rfl ?_); refine goesL_ (some 10) rfl rfl Try.func117 z11_ rfl #[.int .i64 a1] rfl z12_ ?_; (with_reducible refine (cmp_isNaN_int.calls a1 false _ A4.out).mono ?_); rintro e w' ⟨rfl, ⟨nd, rfl⟩⟩; refine ⟨_, rfl, ?_⟩))
     go_ret
     exact ⟨z9_, z10_⟩
    ·rw [if_neg c9] at H
     have c9b0 : decide (a1 < a0) = false := decide_eq_false c9
     clear c9
     obtain rfl := Option.some.inj H
     go_enter Try.func110, Try.ntmps110
     go_wp2_with (first | ((with_reducible refine gate_callee (f := 117) rfl ?_); refine goesL_ (some 8) rfl rfl Try.func117 z11_ rfl #[.int .i64 a0] rfl z12_ ?_; (with_reducible refine (cmp_isNaN_int.calls a0 false _ A3.out).mono ?_); rintro e w' ⟨rfl, ⟨nd, rfl⟩⟩; refine ⟨_, rfl, ?_⟩) | ((with_reducible refine gate_callee (f := 117) rfl ?_); refine goesL_ (some 10) rfl rfl Try.func117 z11_ rfl #[.int .i64 a1] rfl z12_ ?_; (with_reducible refine (cmp_isNaN_int.calls a1 false _ A4.out).mono ?_); rintro e w' ⟨rfl, ⟨nd, rfl⟩⟩; refine ⟨_, rfl, ?_⟩))
     go_ret
     exact ⟨z9_, z10_⟩
def fold_order.f (k : Nat) (a0_0 : Int) (a0_1 : Int) (a0_2 : ByteArray) (a1_0 : Int) (a1_1 : Int) (a1_2 : ByteArray) : Option (Int) := (cmp_Compare_int.f a0_0 a1_0).bind fun t114 => ((cmp_Compare_int.f a0_1 a1_1).bind fun t115 => ((cmp_Or_int.f k (([t114, t115] : List Int))).bind fun t119 => (some t119)))
def fold_order.T1 : Bool × List (List Nat × List Nat) := (true, [([], []), ([0], [0]), ([], []), ([2], [2]), ([1, 3], [1, 3]), ([], []), ([5], [5]), ([], []), ([7], [7]), ([6, 8, 4], [6, 8]), ([4, 9], [4, 9]), ([10, 9], [10]), ([11, 11, 0, 1, 2, 3, 4, 5, 6, 7, 8, 9, 10, 11], [11])])
def fold_order.B1 : List Nat := [0, 1, 0, 4, 15, 0, 32, 0, 128, 511, 1023, 2047, 4095]
theorem fold_order.tab1 : rtab .any (opsOf Try.f93 1) = fold_order.T1 := by kernel_rfl
theorem fold_order.bits1 : waitsOk fold_order.T1.2 fold_order.B1 = true := by kernel_rfl
set_option maxHeartbeats 8000000 in
set_option maxRecDepth 100000 in
theorem fold_order.calls (k : Nat) (a0_0 : Int) (a0_1 : Int) (a0_2 : ByteArray) (a1_0 : Int) (a1_1 : Int) (a1_2 : ByteArray) (r : Int) (w : World) (h : fold_order.f k a0_0 a0_1 a0_2 a1_0 a1_1 a1_2 = some r) :
  Calls Try.prog 93 #[.agg #[.int .i64 a0_0, .int .i64 a0_1, .string a0_2], .agg #[.int .i64 a1_0, .int .i64 a1_1, .string a1_2]] w fun e w' => e = .returned (.int .i64 r) ∧ Below w.heap.size w w' := by
 have hu120 := Try.underlying120
 have HB := a0_ (Below.refl w.heap.size w)
 have H : ((cmp_Compare_int.f a0_0 a1_0).bind fun t114 => ((cmp_Compare_int.f a0_1 a1_1).bind fun t115 => ((cmp_Or_int.f k (([t114, t115] : List Int))).bind fun t119 => (some t119)))) = some r := h
 clear h
 replace H := Option.bind_eq_some_iff.mp H
 obtain ⟨t114, A30, H⟩ := H
 try dsimp only at H
 have A3 := a0_ A30
 clear A30
 replace H := Option.bind_eq_some_iff.mp H
 obtain ⟨t115, A40, H⟩ := H
 try dsimp only at H
 have A4 := a0_ A40
 clear A40
 obtain ⟨y116, hy116⟩ : ∃ y_ : List Int, y_ = (([t114, t115] : List Int)) := ⟨_, rfl⟩
 replace H : ((cmp_Or_int.f k y116).bind fun t119 => (some t119)) = some r := by first | (rw [hy116]; with_reducible exact H) | (have H2_ := (Option.bind_some _ _).symm.trans H; rw [hy116]; with_reducible exact H2_) | (have H2_ := (Option.bind_some _ _).symm.trans H; with_reducible exact H2_) | with_reducible exact H | (rw [hy116]; exact H) | exact H
 have Ny116 := a0_ hy116
 clear hy116
 replace H := Option.bind_eq_some_iff.mp H
 obtain ⟨t119, A50, H⟩ := H
 try dsimp only at H
 have A5 := a0_ A50
 clear A50
 obtain rfl := Option.some.inj H
 go_enter Try.func93, Try.ntmps93
 try go_wp2_with (first | ((with_reducible refine gate_dst (N := 2) rfl ?_); refine box_event ?hg (N := 2) ?hd (cs := #[.int .i64 a0_0, .int .i64 a0_1, .string a0_2]) (t := 120) ?hr ?_; (case hd => rfl); (case hg => rfl); (case hr => exact z7_); intro gb112 hg w6 hbox hb; have n0_ := a0_ (below_step z6_ hb); have n1_ := a0_ (hbox); have n2_ := a0_ ((z8_ : w.heap.size ≤ gb112)); have n3_ := a0_ ((z8_ : w.heap.size ≤ gb112)); clear HB; have HB := n0_; have BK112 := n1_; have GW112 := n2_; have GE112 := n3_; clear n0_ n1_ n2_ n3_; clear hb hbox hg) | ((with_reducible refine gate_dst (N := 3) rfl ?_); refine box_event ?hg (N := 3) ?hd (cs := #[.int .i64 a1_0, .int .i64 a1_1, .string a1_2]) (t := 120) ?hr ?_; (case hd => rfl); (case hg => rfl); (case hr => exact z7_); intro gb113 hg w7 hbox hb; have n0_ := a0_ (blk_below z22_ hb); have n1_ := a0_ (below_step z23_ hb); have n2_ := a0_ (hbox); have n3_ := a0_ ((z24_ : w.heap.size ≤ gb113)); have n4_ := a0_ ((z24_ : w.heap.size ≤ gb113)); have n5_ := a0_ ((by rw [hg]; exact Nat.ne_of_lt (blk_lt (g := gb112) (o := .cells #[.int .i64 a0_0, .int .i64 a0_1, .string a0_2] 120 (0, 0)) z22_) : gb112 ≠ gb113)); have n6_ := a0_ ((by rw [hg]; exact Nat.ne_of_gt (blk_lt (g := gb112) (o := .cells #[.int .i64 a0_0, .int .i64 a0_1, .string a0_2] 120 (0, 0)) z22_) : gb113 ≠ gb112)); clear BK112; clear HB; have BK112 := n0_; have HB := n1_; have BK113 := n2_; have GW113 := n3_; have GE113 := n4_; have NB112_113 := n5_; have NB113_112 := n6_; clear n0_ n1_ n2_ n3_ n4_ n5_ n6_; clear hb hbox hg))
 have n0_ := a0_ (blk_drew BK112.out)
 have n1_ := a0_ (blk_drew BK113.out)
 have n2_ := a0_ (below_drew1 HB.out)
 clear BK112
 clear BK113
 clear HB
 have BK112 := n0_
 have BK113 := n1_
 have HB := n2_
 clear n0_ n1_ n2_
 refine st_ 13 (S := fun w' => w'.cell? ⟨gb112, 0, none⟩ = some (.int .i64 a0_0) ∧ w'.cell? ⟨gb112, 1, none⟩ = some (.int .i64 a0_1) ∧ w'.cell? ⟨gb112, 2, none⟩ = some (.string a0_2) ∧ w'.cell? ⟨gb113, 0, none⟩ = some (.int .i64 a1_0) ∧ w'.cell? ⟨gb113, 1, none⟩ = some (.int .i64 a1_1) ∧ w'.cell? ⟨gb113, 2, none⟩ = some (.string a1_2)) (ds := []) ⟨(blk_cell BK112.out 0).trans rfl, (blk_cell BK112.out 1).trans rfl, (blk_cell BK112.out 2).trans rfl, (blk_cell BK113.out 0).trans rfl, (blk_cell BK113.out 1).trans rfl, (blk_cell BK113.out 2).trans rfl⟩ (fun hHeld => ?_); refine with_tabW fold_order.tab1 fold_order.bits1 (fun HT_ HW_ => ?_)
 generalize w7.drew = w8 at BK112 BK113 HB hHeld ⊢
 refine pq_ 0 (some 5) rfl rfl ?_
 refine pq_ 2 (some 7) rfl rfl ?_
 refine pq_ 5 (some 10) rfl rfl ?_
 refine pq_ 7 (some 12) rfl rfl ?_
 refine tq_ 1 (some 6) rfl rfl hHeld ?_
 refine tq_ 3 (some 8) rfl rfl hHeld ?_
 refine tq_ 6 (some 11) rfl rfl hHeld ?_
 refine tq_ 8 (some 13) rfl rfl hHeld ?_
 refine oq_ 4 (some 9) rfl rfl (fun K hK => ?_)
 refine goes_ Try.func110 z11_ rfl #[.int .i64 a0_0, .int .i64 a1_0] (by rfl) rfl rfl z12_ ?_
 with_reducible refine (cmp_Compare_int.calls a0_0 a1_0 t114 _ A3.out).mono ?_
 rintro e w' ⟨rfl, ⟨nd, rfl⟩⟩
 refine ⟨_, rfl, ?_⟩
 refine hK.out _ _ z25_ (fun hHeld => ?_)
 clear hK K
 refine norm_ (a' := ?_) ?_ ?_
 rotate_left
 ·show Act.put _ (some 9) _ = _
  exact put_
 refine oq_ 9 (some 14) rfl rfl (fun K hK => ?_)
 refine goes_ Try.func110 z11_ rfl #[.int .i64 a0_1, .int .i64 a1_1] (by rfl) rfl rfl z12_ ?_
 with_reducible refine (cmp_Compare_int.calls a0_1 a1_1 t115 _ A4.out).mono ?_
 rintro e w' ⟨rfl, ⟨nd, rfl⟩⟩
 refine ⟨_, rfl, ?_⟩
 refine hK.out _ _ z25_ (fun hHeld => ?_)
 clear hK K
 refine norm_ (a' := ?_) ?_ ?_
 rotate_left
 ·show Act.put _ (some 14) _ = _
  exact put_
 refine oq_ 10 (some 15) rfl rfl (fun K hK => ?_)
 refine Kd.R_lit_step (Kd.int .i64) _ 3 ?hg (N := 15) ?hd (xs := ([t114, t115] : List Int)) (inner := [.int .i64 t114, .int .i64 t115]) (ok := fun _ => True) (okp := fun _ => True) ?hr ?hp (fun _ hk => hk) trivial (Below.refl _ _) (Nat.le_refl _) (by simp) ?_; (case hd => rfl); (case hg => rfl); (case hr => exact z7_); (case hp => exact (Reps.one (show Kd.M (Kd.int .i64) _ _ _ t114 [.int .i64 t114] from rfl) (Reps.one (show Kd.M (Kd.int .i64) _ _ _ t115 [.int .i64 t115] from rfl) (Reps.none _ _))))
 intro v117 w9 ho10 hb hg_ hnew_
 clear hg_ hnew_
 (first | rw [← Ny116.out] at ho10 | (simp only [Int.reduceToNat] at ho10; rw [← Ny116.out] at ho10))
 have n0_ := a0_ (Kd.R_lower ho10 (below_size z26_))
 have n1_ := a0_ (blk_below z22_ hb)
 have n2_ := a0_ (blk_below (by (with_reducible repeat (first | refine blk_drewN ?_ _ | refine blk_drew ?_ | refine blk_alloc ?_ _)); exact BK113.out) hb)
 have n3_ := a0_ (below_step z26_ hb)
 clear BK112
 clear BK113
 clear HB
 have HO118 := n0_
 have BK112 := n1_
 have BK113 := n2_
 have HB := n3_
 clear n0_ n1_ n2_ n3_
 clear hb ho10
 obtain ⟨Ao11, co11, eo11⟩ := Kd.R_slice HO118.out
 (first | subst eo11 | (injection eo11 with f1_ f2_ f3_; have f4_ := f1_.symm; have f5_ := f3_.symm; clear f1_ f2_ f3_; subst f4_; subst f5_))
 refine hK.out _ _ z25_ (fun hHeld => ?_)
 clear hK K
 refine norm_ (a' := ?_) ?_ ?_
 rotate_left
 ·show Act.put _ (some 15) _ = _
  exact put_
 refine oq_ 11 (some 16) rfl rfl (fun K hK => ?_)
 refine goes_ Try.func109 z11_ rfl #[.slice Ao11 y116.length co11] (by rfl) rfl rfl z12_ ?_
 with_reducible refine (cmp_Or_int.calls k _ _ y116 t119 _ ?side1 ?side2 A5.out).mono ?_
 (case side1 => repeat (first | exact (Kd.R_reads' HO118.out).2.2 | (with_reducible refine Kd.C_alloc ?_ _) | (with_reducible refine Kd.C_drewN ?_ _) | (with_reducible refine Kd.C_drew ?_)))
 (case side2 => exact (Kd.R_reads' HO118.out).2.1)
 rintro e w' ⟨rfl, ⟨nd, rfl⟩⟩
 refine ⟨_, rfl, ?_⟩
 refine hK.out _ _ z25_ (fun hHeld => ?_)
 clear hK K
 refine norm_ (a' := ?_) ?_ ?_
 rotate_left
 ·show Act.put _ (some 16) _ = _
  exact put_
 refine pq_ 12 (some 4) rfl rfl ?_
 refine done_ (done_of HT_.out z11_) ?_
 try go_wp2
 go_ret
 exact ⟨z3_, z26_⟩
def fold_Folded.l0 : Nat → List (S120) → Int → Int → Option (Bool)
 | 0, _, _, _ => none
 | k + 1, x0, x5, x6 => if x6 < x5 then (if x6 > 0 then (if 0 ≤ (wrap64 (x6 - 1)) then (if (wrap64 (x6 - 1)) < (x0.length : Int) then (if 0 ≤ x6 then (if x6 < (x0.length : Int) then ((fold_order.f k ((rd_T120 x0 (wrap64 (x6 - 1))).f0) ((rd_T120 x0 (wrap64 (x6 - 1))).f1) ((rd_T120 x0 (wrap64 (x6 - 1))).f2) ((rd_T120 x0 x6).f0) ((rd_T120 x0 x6).f1) ((rd_T120 x0 x6).f2)).bind fun t122 => (if t122 ≥ 0 then (some false) else (fold_Folded.l0 k x0 x5 (wrap64 (x6 + 1))))) else (none)) else (none)) else (none)) else (none)) else (fold_Folded.l0 k x0 x5 (wrap64 (x6 + 1)))) else (some true)
def fold_Folded.f (k : Nat) (l0 : List (S120)) : Option (Bool) := fold_Folded.l0 k l0 (l0.length : Int) 0
def fold_Folded.T4 : Bool × List (List Nat × List Nat) := (true, [([], []), ([0], [0]), ([1], [1]), ([2], [2]), ([2], [2]), ([4, 2], [2, 4]), ([3, 5, 2], [2, 3, 5]), ([6, 2], [2, 6]), ([2], [2]), ([2], [2]), ([8, 9, 2], [2, 8, 9]), ([10, 2], [2, 10]), ([7, 11, 2, 2], [2, 7, 11]), ([12, 2], [2, 12]), ([2, 13], [2, 13])])
def fold_Folded.B4 : List Nat := [0, 1, 3, 7, 7, 23, 63, 127, 7, 7, 775, 1799, 4095, 8191, 16383]
theorem fold_Folded.tab4 : rtab .any (opsOf Try.f87 4) = fold_Folded.T4 := by kernel_rfl
theorem fold_Folded.bits4 : waitsOk fold_Folded.T4.2 fold_Folded.B4 = true := by kernel_rfl
set_option maxHeartbeats 8000000 in
set_option maxRecDepth 100000 in
theorem fold_Folded.calls (k : Nat) (A0 : Option Addr) (c0 : Nat) (l0 : List (S120)) (r : Bool) (w : World) (hr0 : Kd.C k120 w A0 l0.length l0) (hc0 : l0.length ≤ c0) (h : fold_Folded.f k l0 = some r) :
  Calls Try.prog 87 #[.slice A0 l0.length c0] w fun e w' => e = .returned (.bool r) ∧ Below w.heap.size w w' := by
 have hu120 := Try.underlying120
 have HR0 := a0_ hr0
 have HC0 := a0_ hc0
 clear hr0 hc0
 have HB := a0_ (Below.refl w.heap.size w)
 have H : (fold_Folded.l0 k l0 (l0.length : Int) 0) = some r := h
 clear h
 have H' := a0_ H
 clear H
 go_enter Try.func87, Try.ntmps87
 go_wp2
 go_loopg [6] k (fun kq v6 w' => ∃ (x6_1 : Int), v6 = .int .i64 x6_1 ∧ Aside0 (fold_Folded.l0 kq l0 (l0.length : Int) x6_1 = some r) ∧ Aside0 (kq ≤ k) ∧ Aside0 (Below w.heap.size w w'))
 case atStart => exact ⟨(0), z9_, H', ⟨Nat.le_refl _⟩, ⟨z6_⟩⟩
 case round =>
  clear H'
  obtain ⟨x6_1, rfl, HA, HK1, HB⟩ := hrel
  cases gk with
  | zero => exact absurd HA.out (by simp [fold_Folded.l0])
  | succ k1 =>
   have H := HA.out
   clear HA
   simp only [fold_Folded.l0] at H
   by_cases c2 : x6_1 < (l0.length : Int)
   ·rw [if_pos c2] at H
    have c2b0 : decide (x6_1 < (l0.length : Int)) = true := decide_eq_true c2
    clear c2
    by_cases c3 : x6_1 > 0
    ·rw [if_pos c3] at H
     have c3b0 : decide (0 < x6_1) = true := decide_eq_true c3
     clear c3
     obtain ⟨ji4, hji4⟩ : ∃ j_ : Int, (wrap64 (x6_1 - 1)) = j_ := ⟨_, rfl⟩
     replace H : (if 0 ≤ (ji4) then (if (ji4) < (l0.length : Int) then (if 0 ≤ x6_1 then (if x6_1 < (l0.length : Int) then ((fold_order.f k1 ((rd_T120 l0 (ji4)).f0) ((rd_T120 l0 (ji4)).f1) ((rd_T120 l0 (ji4)).f2) ((rd_T120 l0 x6_1).f0) ((rd_T120 l0 x6_1).f1) ((rd_T120 l0 x6_1).f2)).bind fun t122 => (if t122 ≥ 0 then (some false) else (fold_Folded.l0 k1 l0 (l0.length : Int) (wrap64 (x6_1 + 1))))) else (none)) else (none)) else (none)) else (none)) = some r := by first | (rw [hji4] at H; exact H) | (simp only [hji4] at H ⊢; exact H)
     have hji4w : (IntKind.i64.wrap (x6_1 - 1)) = ji4 := (i64_w _).trans hji4
     by_cases c5 : 0 ≤ (ji4)
     ·rw [if_pos c5] at H
      have c5b0 : decide (0 ≤ (ji4)) = true := decide_eq_true c5
      clear c5
      by_cases c6 : (ji4) < (l0.length : Int)
      ·rw [if_pos c6] at H
       have c6b0 : decide ((ji4) < (l0.length : Int)) = true := decide_eq_true c6
       clear c6
       by_cases c7 : 0 ≤ x6_1
       ·rw [if_pos c7] at H
        have c7b0 : decide (0 ≤ x6_1) = true := decide_eq_true c7
        clear c7
        by_cases c8 : x6_1 < (l0.length : Int)
        ·rw [if_pos c8] at H
         have c8b0 : decide (x6_1 < (l0.length : Int)) = true := decide_eq_true c8
         clear c8
         replace H := Option.bind_eq_some_iff.mp H
         obtain ⟨t122, A90, H⟩ := H
         try dsimp only at H
         have A9 := a0_ A90
         clear A90
         by_cases c10 : t122 ≥ 0
         ·rw [if_pos c10] at H
          have c10b0 : decide (0 ≤ t122) = true := decide_eq_true c10
          clear c10
          obtain rfl := Option.some.inj H
          try go_wp2
          have n0_ := a0_ (below_drew1 HB.out)
          clear HB
          have HB := n0_
          clear n0_
          have p120 : 0 ≤ ((ji4) : Int) := of_decide_eq_true z19_
          have q120 : (ji4) < (l0.length : Int) := of_decide_eq_true z19_
          obtain ⟨ad120, e120, hx120_0, hx120_1, hx120_2⟩ := at_T120 HR0.out (ji4) p120 q120
          have hw120_2 := hx120_2
          have hw120_1 := hx120_1
          have hw120_0 := hx120_0
          cases e120
          replace hx120_0 := (HB.out.cell (World.block_lt_of_cell? w _ hx120_0)).trans hx120_0
          replace hx120_1 := (HB.out.cell (World.block_lt_of_cell? w _ hx120_1)).trans hx120_1
          replace hx120_2 := (HB.out.cell (World.block_lt_of_cell? w _ hx120_2)).trans hx120_2
          replace p120 := eq_true p120
          replace q120 := eq_true q120
          have p121 : 0 ≤ (x6_1 : Int) := of_decide_eq_true z19_
          have q121 : x6_1 < (l0.length : Int) := of_decide_eq_true z19_
          obtain ⟨ad121, e121, hx121_0, hx121_1, hx121_2⟩ := at_T120 HR0.out x6_1 p121 q121
          have hw121_2 := hx121_2
          have hw121_1 := hx121_1
          have hw121_0 := hx121_0
          obtain rfl : ad120 = ad121 := (by injection e121)
          replace hx121_0 := (HB.out.cell (World.block_lt_of_cell? w _ hx121_0)).trans hx121_0
          replace hx121_1 := (HB.out.cell (World.block_lt_of_cell? w _ hx121_1)).trans hx121_1
          replace hx121_2 := (HB.out.cell (World.block_lt_of_cell? w _ hx121_2)).trans hx121_2
          replace p121 := eq_true p121
          replace q121 := eq_true q121
          refine st_ 15 (S := fun w' => w'.cell? (ad120.add (((ji4)).toNat * 3)) = some (.int .i64 ((rd_T120 l0 (ji4)).f0)) ∧ w'.cell? ⟨(ad120.add (((ji4)).toNat * 3)).block, (ad120.add (((ji4)).toNat * 3)).off + 1, none⟩ = some (.int .i64 ((rd_T120 l0 (ji4)).f1)) ∧ w'.cell? ⟨(ad120.add (((ji4)).toNat * 3)).block, (ad120.add (((ji4)).toNat * 3)).off + 2, none⟩ = some (.string ((rd_T120 l0 (ji4)).f2)) ∧ w'.cell? (ad120.add ((x6_1).toNat * 3)) = some (.int .i64 ((rd_T120 l0 x6_1).f0)) ∧ w'.cell? ⟨(ad120.add ((x6_1).toNat * 3)).block, (ad120.add ((x6_1).toNat * 3)).off + 1, none⟩ = some (.int .i64 ((rd_T120 l0 x6_1).f1)) ∧ w'.cell? ⟨(ad120.add ((x6_1).toNat * 3)).block, (ad120.add ((x6_1).toNat * 3)).off + 2, none⟩ = some (.string ((rd_T120 l0 x6_1).f2))) (ds := []) ⟨((HB.out.cell (World.block_lt_of_cell? w _ hw120_0)).trans hw120_0), ((HB.out.cell (World.block_lt_of_cell? w _ hw120_1)).trans hw120_1), ((HB.out.cell (World.block_lt_of_cell? w _ hw120_2)).trans hw120_2), ((HB.out.cell (World.block_lt_of_cell? w _ hw121_0)).trans hw121_0), ((HB.out.cell (World.block_lt_of_cell? w _ hw121_1)).trans hw121_1), ((HB.out.cell (World.block_lt_of_cell? w _ hw121_2)).trans hw121_2)⟩ (fun hHeld => ?_); refine with_tabW fold_Folded.tab4 fold_Folded.bits4 (fun HT_ HW_ => ?_)
          generalize wr.drew = w11 at HB hx120_0 hx120_1 hx120_2 hx121_0 hx121_1 hx121_2 hHeld ⊢
          refine pq_ 0 (some 9) rfl rfl ?_
          refine pq_ 1 (some 10) rfl rfl ?_
          refine pq_ 2 (some 11) rfl rfl ?_
          refine pq_ 3 (some 12) rfl rfl ?_
          refine pq_ 4 (some 13) rfl rfl ?_
          refine pq_ 5 (some 14) rfl rfl ?_
          refine pq_ 6 (some 15) rfl rfl ?_
          refine pq_ 8 (some 17) rfl rfl ?_
          refine pq_ 9 (some 18) rfl rfl ?_
          refine pq_ 10 (some 19) rfl rfl ?_
          refine tq_ 7 (some 16) rfl rfl hHeld ?_
          refine tq_ 11 (some 20) rfl rfl hHeld ?_
          refine oq_ 12 (some 21) rfl rfl (fun K hK => ?_)
          refine goes_ Try.func93 z11_ rfl #[.agg #[.int .i64 ((rd_T120 l0 (ji4)).f0), .int .i64 ((rd_T120 l0 (ji4)).f1), .string ((rd_T120 l0 (ji4)).f2)], .agg #[.int .i64 ((rd_T120 l0 x6_1).f0), .int .i64 ((rd_T120 l0 x6_1).f1), .string ((rd_T120 l0 x6_1).f2)]] (by rfl) rfl rfl z27_ ?_
          with_reducible refine (fold_order.calls k1 ((rd_T120 l0 (ji4)).f0) ((rd_T120 l0 (ji4)).f1) ((rd_T120 l0 (ji4)).f2) ((rd_T120 l0 x6_1).f0) ((rd_T120 l0 x6_1).f1) ((rd_T120 l0 x6_1).f2) t122 _ A9.out).mono ?_
          rintro e w12 ⟨rfl, hb⟩
          refine ⟨_, rfl, ?_⟩
          have n0_ := a0_ (below_step z6_ hb)
          clear HB
          have HB := n0_
          clear n0_
          (try clear hb)
          (try clear hb2)
          (try clear hk)
          (try clear hi)
          refine hK.out _ _ ⟨((HB.out.cell (World.block_lt_of_cell? w _ hw120_0)).trans hw120_0), ((HB.out.cell (World.block_lt_of_cell? w _ hw120_1)).trans hw120_1), ((HB.out.cell (World.block_lt_of_cell? w _ hw120_2)).trans hw120_2), ((HB.out.cell (World.block_lt_of_cell? w _ hw121_0)).trans hw121_0), ((HB.out.cell (World.block_lt_of_cell? w _ hw121_1)).trans hw121_1), ((HB.out.cell (World.block_lt_of_cell? w _ hw121_2)).trans hw121_2)⟩ (fun hHeld => ?_)
          clear hK K
          refine norm_ (a' := ?_) ?_ ?_
          rotate_left
          ·show Act.put _ (some 21) _ = _
           exact put_
          refine pq_ 13 (some 22) rfl rfl ?_
          refine pq_ 14 (some 23) rfl rfl ?_
          refine done_ (done_of HT_.out z11_) ?_
          try go_wp2
          go_ret
          exact ⟨z28_, z6_⟩
         ·rw [if_neg c10] at H
          have c10b0 : decide (0 ≤ t122) = false := decide_eq_false c10
          clear c10
          have H' := a0_ H
          clear H
          try go_wp2
          have n0_ := a0_ (below_drew1 HB.out)
          clear HB
          have HB := n0_
          clear n0_
          have p120 : 0 ≤ ((ji4) : Int) := of_decide_eq_true z19_
          have q120 : (ji4) < (l0.length : Int) := of_decide_eq_true z19_
          obtain ⟨ad120, e120, hx120_0, hx120_1, hx120_2⟩ := at_T120 HR0.out (ji4) p120 q120
          have hw120_2 := hx120_2
          have hw120_1 := hx120_1
          have hw120_0 := hx120_0
          cases e120
          replace hx120_0 := (HB.out.cell (World.block_lt_of_cell? w _ hx120_0)).trans hx120_0
          replace hx120_1 := (HB.out.cell (World.block_lt_of_cell? w _ hx120_1)).trans hx120_1
          replace hx120_2 := (HB.out.cell (World.block_lt_of_cell? w _ hx120_2)).trans hx120_2
          replace p120 := eq_true p120
          replace q120 := eq_true q120
          have p121 : 0 ≤ (x6_1 : Int) := of_decide_eq_true z19_
          have q121 : x6_1 < (l0.length : Int) := of_decide_eq_true z19_
          obtain ⟨ad121, e121, hx121_0, hx121_1, hx121_2⟩ := at_T120 HR0.out x6_1 p121 q121
          have hw121_2 := hx121_2
          have hw121_1 := hx121_1
          have hw121_0 := hx121_0
          obtain rfl : ad120 = ad121 := (by injection e121)
          replace hx121_0 := (HB.out.cell (World.block_lt_of_cell? w _ hx121_0)).trans hx121_0
          replace hx121_1 := (HB.out.cell (World.block_lt_of_cell? w _ hx121_1)).trans hx121_1
          replace hx121_2 := (HB.out.cell (World.block_lt_of_cell? w _ hx121_2)).trans hx121_2
          replace p121 := eq_true p121
          replace q121 := eq_true q121
          refine st_ 15 (S := fun w' => w'.cell? (ad120.add (((ji4)).toNat * 3)) = some (.int .i64 ((rd_T120 l0 (ji4)).f0)) ∧ w'.cell? ⟨(ad120.add (((ji4)).toNat * 3)).block, (ad120.add (((ji4)).toNat * 3)).off + 1, none⟩ = some (.int .i64 ((rd_T120 l0 (ji4)).f1)) ∧ w'.cell? ⟨(ad120.add (((ji4)).toNat * 3)).block, (ad120.add (((ji4)).toNat * 3)).off + 2, none⟩ = some (.string ((rd_T120 l0 (ji4)).f2)) ∧ w'.cell? (ad120.add ((x6_1).toNat * 3)) = some (.int .i64 ((rd_T120 l0 x6_1).f0)) ∧ w'.cell? ⟨(ad120.add ((x6_1).toNat * 3)).block, (ad120.add ((x6_1).toNat * 3)).off + 1, none⟩ = some (.int .i64 ((rd_T120 l0 x6_1).f1)) ∧ w'.cell? ⟨(ad120.add ((x6_1).toNat * 3)).block, (ad120.add ((x6_1).toNat * 3)).off + 2, none⟩ = some (.string ((rd_T120 l0 x6_1).f2))) (ds := []) ⟨((HB.out.cell (World.block_lt_of_cell? w _ hw120_0)).trans hw120_0), ((HB.out.cell (World.block_lt_of_cell? w _ hw120_1)).trans hw120_1), ((HB.out.cell (World.block_lt_of_cell? w _ hw120_2)).trans hw120_2), ((HB.out.cell (World.block_lt_of_cell? w _ hw121_0)).trans hw121_0), ((HB.out.cell (World.block_lt_of_cell? w _ hw121_1)).trans hw121_1), ((HB.out.cell (World.block_lt_of_cell? w _ hw121_2)).trans hw121_2)⟩ (fun hHeld => ?_); refine with_tabW fold_Folded.tab4 fold_Folded.bits4 (fun HT_ HW_ => ?_)
          generalize wr.drew = w13 at HB hx120_0 hx120_1 hx120_2 hx121_0 hx121_1 hx121_2 hHeld ⊢
          refine pq_ 0 (some 9) rfl rfl ?_
          refine pq_ 1 (some 10) rfl rfl ?_
          refine pq_ 2 (some 11) rfl rfl ?_
          refine pq_ 3 (some 12) rfl rfl ?_
          refine pq_ 4 (some 13) rfl rfl ?_
          refine pq_ 5 (some 14) rfl rfl ?_
          refine pq_ 6 (some 15) rfl rfl ?_
          refine pq_ 8 (some 17) rfl rfl ?_
          refine pq_ 9 (some 18) rfl rfl ?_
          refine pq_ 10 (some 19) rfl rfl ?_
          refine tq_ 7 (some 16) rfl rfl hHeld ?_
          refine tq_ 11 (some 20) rfl rfl hHeld ?_
          refine oq_ 12 (some 21) rfl rfl (fun K hK => ?_)
          refine goes_ Try.func93 z11_ rfl #[.agg #[.int .i64 ((rd_T120 l0 (ji4)).f0), .int .i64 ((rd_T120 l0 (ji4)).f1), .string ((rd_T120 l0 (ji4)).f2)], .agg #[.int .i64 ((rd_T120 l0 x6_1).f0), .int .i64 ((rd_T120 l0 x6_1).f1), .string ((rd_T120 l0 x6_1).f2)]] (by rfl) rfl rfl z27_ ?_
          with_reducible refine (fold_order.calls k1 ((rd_T120 l0 (ji4)).f0) ((rd_T120 l0 (ji4)).f1) ((rd_T120 l0 (ji4)).f2) ((rd_T120 l0 x6_1).f0) ((rd_T120 l0 x6_1).f1) ((rd_T120 l0 x6_1).f2) t122 _ A9.out).mono ?_
          rintro e w14 ⟨rfl, hb⟩
          refine ⟨_, rfl, ?_⟩
          have n0_ := a0_ (below_step z6_ hb)
          clear HB
          have HB := n0_
          clear n0_
          (try clear hb)
          (try clear hb2)
          (try clear hk)
          (try clear hi)
          refine hK.out _ _ ⟨((HB.out.cell (World.block_lt_of_cell? w _ hw120_0)).trans hw120_0), ((HB.out.cell (World.block_lt_of_cell? w _ hw120_1)).trans hw120_1), ((HB.out.cell (World.block_lt_of_cell? w _ hw120_2)).trans hw120_2), ((HB.out.cell (World.block_lt_of_cell? w _ hw121_0)).trans hw121_0), ((HB.out.cell (World.block_lt_of_cell? w _ hw121_1)).trans hw121_1), ((HB.out.cell (World.block_lt_of_cell? w _ hw121_2)).trans hw121_2)⟩ (fun hHeld => ?_)
          clear hK K
          refine norm_ (a' := ?_) ?_ ?_
          rotate_left
          ·show Act.put _ (some 21) _ = _
           exact put_
          refine pq_ 13 (some 22) rfl rfl ?_
          refine pq_ 14 (some 23) rfl rfl ?_
          refine done_ (done_of HT_.out z11_) ?_
          try go_wp2
          go_roundg k1
          case measure => have := HK1.out; omega
          case rel => exact ⟨(wrap64 (x6_1 + 1)), z9_, H', ⟨z21_⟩, ⟨z6_⟩⟩
        ·rw [if_neg c8] at H
         exact absurd H (by simp)
       ·rw [if_neg c7] at H
        exact absurd H (by simp)
      ·rw [if_neg c6] at H
       exact absurd H (by simp)
     ·rw [if_neg c5] at H
      exact absurd H (by simp)
    ·rw [if_neg c3] at H
     have c3b0 : decide (0 < x6_1) = false := decide_eq_false c3
     clear c3
     have H' := a0_ H
     clear H
     try go_wp2
     have n0_ := a0_ (below_drew1 HB.out)
     clear HB
     have HB := n0_
     clear n0_
     refine st_ 15 (S := fun w' => True) (ds := []) trivial (fun hHeld => ?_); refine with_tabW fold_Folded.tab4 fold_Folded.bits4 (fun HT_ HW_ => ?_)
     generalize wr.drew = w15 at HB hHeld ⊢
     refine pq_ 0 (some 9) rfl rfl ?_
     refine pq_ 1 (some 10) rfl rfl ?_
     refine pq_ 2 (some 11) rfl rfl ?_
     refine pw_ 3 (some 12) rfl rfl ?_
     refine pw_ 4 (some 13) rfl rfl ?_
     refine pw_ 5 (some 14) rfl rfl ?_
     refine pw_ 6 (some 15) rfl rfl ?_
     refine pw_ 7 (some 16) rfl rfl ?_
     refine pw_ 8 (some 17) rfl rfl ?_
     refine pw_ 9 (some 18) rfl rfl ?_
     refine pw_ 10 (some 19) rfl rfl ?_
     refine pw_ 11 (some 20) rfl rfl ?_
     refine pw_ 12 (some 21) rfl rfl ?_
     refine pw_ 13 (some 22) rfl rfl ?_
     refine pq_ 14 (some 23) rfl rfl ?_
     refine done_ (done_of HT_.out z11_) ?_
     try go_wp2
     go_roundg k1
     case measure => have := HK1.out; omega
     case rel => exact ⟨(wrap64 (x6_1 + 1)), z9_, H', ⟨z21_⟩, ⟨z6_⟩⟩
   ·rw [if_neg c2] at H
    have c2b0 : decide (x6_1 < (l0.length : Int)) = false := decide_eq_false c2
    clear c2
    obtain rfl := Option.some.inj H
    go_wp2
    go_ret
    exact ⟨z3_, z6_⟩
end Go.Proofs.Ytecfndblgefhdaa.P
