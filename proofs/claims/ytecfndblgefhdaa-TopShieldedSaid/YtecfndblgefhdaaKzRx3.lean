import Derived.Test.YtecfndblgefhdaaKzRx2
namespace Go.Proofs.Ytecfndblgefhdaa.R
open Go.RowKit Go.Proofs.YtecfndblgefhdaaW.PrintWords Go.Proofs.YtecfndblgefhdaaW.PrintLast Go.Proofs.YtecfndblgefhdaaW.PrintMore
attribute [local go_sem] max2_int min2_int max_two min_two max_three min_three max_four min_four
set_option linter.unusedVariables false
set_option linter.unusedSimpArgs false
def cmp_Compare_int.f (a0 : Int) (a1 : Int) : Option (Int) := (cmp_isNaN_int.f a0).bind fun t121 => ((cmp_isNaN_int.f a1).bind fun t122 => (if t121 = true then (if t122 = true then (some 0) else (some (-1))) else (if t122 = true then (some 1) else (if a0 < a1 then (some (-1)) else (if a0 > a1 then (some 1) else (some 0))))))
set_option maxHeartbeats 8000000 in
set_option maxRecDepth 100000 in
theorem cmp_Compare_int.calls (a0 : Int) (a1 : Int) (r : Int) (w : World) (h : cmp_Compare_int.f a0 a1 = some r) :
  Calls Try.prog 110 #[.int .i64 a0, .int .i64 a1] w fun e w' => e = .returned (.int .i64 r) ∧ Drawn0 w w' := by
 have H : ((cmp_isNaN_int.f a0).bind fun t121 => ((cmp_isNaN_int.f a1).bind fun t122 => (if t121 = true then (if t122 = true then (some 0) else (some (-1))) else (if t122 = true then (some 1) else (if a0 < a1 then (some (-1)) else (if a0 > a1 then (some 1) else (some 0))))))) = some r := h
 clear h
 replace H := Option.bind_eq_some_iff.mp H
 obtain ⟨t121, A30, H⟩ := H
 try dsimp only at H
 have A3 := a0_ A30
 clear A30
 replace H := Option.bind_eq_some_iff.mp H
 obtain ⟨t122, A40, H⟩ := H
 try dsimp only at H
 have A4 := a0_ A40
 clear A40
 by_cases c5 : t121 = true
 ·subst c5
  rw [if_pos rfl] at H
  by_cases c6 : t122 = true
  ·subst c6
   rw [if_pos rfl] at H
   obtain rfl := Option.some.inj H
   go_enter Try.func110, Try.ntmps110
   go_wp2_with (first | ((with_reducible refine gate_callee (f := 117) rfl ?_); refine goesL_ (some 8) rfl rfl Try.func117 z6_ rfl #[.int .i64 a0] rfl z16_ ?_; (with_reducible refine (cmp_isNaN_int.calls a0 true _ A3.out).mono ?_); rintro e w' ⟨rfl, ⟨nd, rfl⟩⟩; refine ⟨_, rfl, ?_⟩) | ((with_reducible refine gate_callee (f := 117) rfl ?_); refine goesL_ (some 10) rfl rfl Try.func117 z6_ rfl #[.int .i64 a1] rfl z16_ ?_; (with_reducible refine (cmp_isNaN_int.calls a1 true _ A4.out).mono ?_); rintro e w' ⟨rfl, ⟨nd, rfl⟩⟩; refine ⟨_, rfl, ?_⟩))
   go_ret
   exact ⟨z4_, z5_⟩
  ·replace c6 := Bool.eq_false_iff.mpr c6
   subst c6
   rw [if_neg (show ¬ (false = true) from z8_)] at H
   obtain rfl := Option.some.inj H
   go_enter Try.func110, Try.ntmps110
   go_wp2_with (first | ((with_reducible refine gate_callee (f := 117) rfl ?_); refine goesL_ (some 8) rfl rfl Try.func117 z6_ rfl #[.int .i64 a0] rfl z16_ ?_; (with_reducible refine (cmp_isNaN_int.calls a0 true _ A3.out).mono ?_); rintro e w' ⟨rfl, ⟨nd, rfl⟩⟩; refine ⟨_, rfl, ?_⟩) | ((with_reducible refine gate_callee (f := 117) rfl ?_); refine goesL_ (some 10) rfl rfl Try.func117 z6_ rfl #[.int .i64 a1] rfl z16_ ?_; (with_reducible refine (cmp_isNaN_int.calls a1 false _ A4.out).mono ?_); rintro e w' ⟨rfl, ⟨nd, rfl⟩⟩; refine ⟨_, rfl, ?_⟩))
   go_ret
   exact ⟨z4_, z5_⟩
 ·replace c5 := Bool.eq_false_iff.mpr c5
  subst c5
  rw [if_neg (show ¬ (false = true) from z8_)] at H
  by_cases c7 : t122 = true
  ·subst c7
   rw [if_pos rfl] at H
   obtain rfl := Option.some.inj H
   go_enter Try.func110, Try.ntmps110
   go_wp2_with (first | ((with_reducible refine gate_callee (f := 117) rfl ?_); refine goesL_ (some 8) rfl rfl Try.func117 z6_ rfl #[.int .i64 a0] rfl z16_ ?_; (with_reducible refine (cmp_isNaN_int.calls a0 false _ A3.out).mono ?_); rintro e w' ⟨rfl, ⟨nd, rfl⟩⟩; refine ⟨_, rfl, ?_⟩) | ((with_reducible refine gate_callee (f := 117) rfl ?_); refine goesL_ (some 10) rfl rfl Try.func117 z6_ rfl #[.int .i64 a1] rfl z16_ ?_; (with_reducible refine (cmp_isNaN_int.calls a1 true _ A4.out).mono ?_); rintro e w' ⟨rfl, ⟨nd, rfl⟩⟩; refine ⟨_, rfl, ?_⟩))
   go_ret
   exact ⟨z4_, z5_⟩
  ·replace c7 := Bool.eq_false_iff.mpr c7
   subst c7
   rw [if_neg (show ¬ (false = true) from z8_)] at H
   by_cases c8 : a0 < a1
   ·rw [if_pos c8] at H
    have c8b0 : decide (a0 < a1) = true := decide_eq_true c8
    clear c8
    obtain rfl := Option.some.inj H
    go_enter Try.func110, Try.ntmps110
    go_wp2_with (first | ((with_reducible refine gate_callee (f := 117) rfl ?_); refine goesL_ (some 8) rfl rfl Try.func117 z6_ rfl #[.int .i64 a0] rfl z16_ ?_; (with_reducible refine (cmp_isNaN_int.calls a0 false _ A3.out).mono ?_); rintro e w' ⟨rfl, ⟨nd, rfl⟩⟩; refine ⟨_, rfl, ?_⟩) | ((with_reducible refine gate_callee (f := 117) rfl ?_); refine goesL_ (some 10) rfl rfl Try.func117 z6_ rfl #[.int .i64 a1] rfl z16_ ?_; (with_reducible refine (cmp_isNaN_int.calls a1 false _ A4.out).mono ?_); rintro e w' ⟨rfl, ⟨nd, rfl⟩⟩; refine ⟨_, rfl, ?_⟩))
    go_ret
    exact ⟨z4_, z5_⟩
   ·rw [if_neg c8] at H
    have c8b0 : decide (a0 < a1) = false := decide_eq_false c8
    clear c8
    by_cases c9 : a0 > a1
    ·rw [if_pos c9] at H
     have c9b0 : decide (a1 < a0) = true := decide_eq_true c9
     clear c9
     obtain rfl := Option.some.inj H
     go_enter Try.func110, Try.ntmps110
     go_wp2_with (first | ((with_reducible refine gate_callee (f := 117) rfl ?_); refine goesL_ (some 8) rfl rfl Try.func117 z6_ rfl #[.int .i64 a0] rfl z16_ ?_; (with_reducible refine (cmp_isNaN_int.calls a0 false _ A3.out).mono ?_); rintro e w' ⟨rfl, ⟨nd, rfl⟩⟩; refine ⟨_, rfl, ?_⟩) | ((with_reducible refine gate_callee (f := 117) rfl ?_); refine goesL_ (some 10) rfl rfl Try.func117 z6_ rfl #[.int .i64 a1] rfl z16_ ?_; (with_reducible refine (cmp_isNaN_int.calls a1 false _ A4.out).mono ?_); rintro e w' ⟨rfl, ⟨nd, rfl⟩⟩; refine ⟨_, rfl, ?_⟩))
     go_ret
     exact ⟨z4_, z5_⟩
    ·rw [if_neg c9] at H
     have c9b0 : decide (a1 < a0) = false := decide_eq_false c9
     clear c9
     obtain rfl := Option.some.inj H
     go_enter Try.func110, Try.ntmps110
     go_wp2_with (first | ((with_reducible refine gate_callee (f := 117) rfl ?_); refine goesL_ (some 8) rfl rfl Try.func117 z6_ rfl #[.int .i64 a0] rfl z16_ ?_; (with_reducible refine (cmp_isNaN_int.calls a0 false _ A3.out).mono ?_); rintro e w' ⟨rfl, ⟨nd, rfl⟩⟩; refine ⟨_, rfl, ?_⟩) | ((with_reducible refine gate_callee (f := 117) rfl ?_); refine goesL_ (some 10) rfl rfl Try.func117 z6_ rfl #[.int .i64 a1] rfl z16_ ?_; (with_reducible refine (cmp_isNaN_int.calls a1 false _ A4.out).mono ?_); rintro e w' ⟨rfl, ⟨nd, rfl⟩⟩; refine ⟨_, rfl, ?_⟩))
     go_ret
     exact ⟨z4_, z5_⟩
def fold_order.f (k : Nat) (a0_0 : Int) (a0_1 : Int) (a0_2 : ByteArray) (a1_0 : Int) (a1_1 : Int) (a1_2 : ByteArray) : Option (Int) := (cmp_Compare_int.f a0_0 a1_0).bind fun t125 => ((cmp_Compare_int.f a0_1 a1_1).bind fun t126 => ((cmp_Or_int.f k (([t125, t126] : List Int))).bind fun t130 => (some t130)))
def fold_order.T1 : Bool × List (List Nat × List Nat) := (true, [([], []), ([0], [0]), ([], []), ([2], [2]), ([1, 3], [1, 3]), ([], []), ([5], [5]), ([], []), ([7], [7]), ([6, 8, 4], [6, 8]), ([4, 9], [4, 9]), ([10, 9], [10]), ([11, 11, 0, 1, 2, 3, 4, 5, 6, 7, 8, 9, 10, 11], [11])])
def fold_order.B1 : List Nat := [0, 1, 0, 4, 15, 0, 32, 0, 128, 511, 1023, 2047, 4095]
theorem fold_order.tab1 : rtab .any (opsOf Try.f93 1) = fold_order.T1 := by kernel_rfl
theorem fold_order.bits1 : waitsOk fold_order.T1.2 fold_order.B1 = true := by kernel_rfl
set_option maxHeartbeats 8000000 in
set_option maxRecDepth 100000 in
theorem fold_order.calls (k : Nat) (a0_0 : Int) (a0_1 : Int) (a0_2 : ByteArray) (a1_0 : Int) (a1_1 : Int) (a1_2 : ByteArray) (r : Int) (w : World) (h : fold_order.f k a0_0 a0_1 a0_2 a1_0 a1_1 a1_2 = some r) :
  Calls Try.prog 93 #[.agg #[.int .i64 a0_0, .int .i64 a0_1, .string a0_2], .agg #[.int .i64 a1_0, .int .i64 a1_1, .string a1_2]] w fun e w' => e = .returned (.int .i64 r) ∧ Below w.heap.size w w' := by
 have hu120 := Try.underlying120
 have HB := a0_ (Below.refl w.heap.size w)
 have H : ((cmp_Compare_int.f a0_0 a1_0).bind fun t125 => ((cmp_Compare_int.f a0_1 a1_1).bind fun t126 => ((cmp_Or_int.f k (([t125, t126] : List Int))).bind fun t130 => (some t130)))) = some r := h
 clear h
 replace H := Option.bind_eq_some_iff.mp H
 obtain ⟨t125, A30, H⟩ := H
 try dsimp only at H
 have A3 := a0_ A30
 clear A30
 replace H := Option.bind_eq_some_iff.mp H
 obtain ⟨t126, A40, H⟩ := H
 try dsimp only at H
 have A4 := a0_ A40
 clear A40
 obtain ⟨y127, hy127⟩ : ∃ y_ : List Int, y_ = (([t125, t126] : List Int)) := ⟨_, rfl⟩
 replace H : ((cmp_Or_int.f k y127).bind fun t130 => (some t130)) = some r := by first | (rw [hy127]; with_reducible exact H) | (have H2_ := (Option.bind_some _ _).symm.trans H; rw [hy127]; with_reducible exact H2_) | (have H2_ := (Option.bind_some _ _).symm.trans H; with_reducible exact H2_) | with_reducible exact H | (rw [hy127]; exact H) | exact H
 have Ny127 := a0_ hy127
 clear hy127
 replace H := Option.bind_eq_some_iff.mp H
 obtain ⟨t130, A50, H⟩ := H
 try dsimp only at H
 have A5 := a0_ A50
 clear A50
 obtain rfl := Option.some.inj H
 go_enter Try.func93, Try.ntmps93
 try go_wp2_with (first | ((with_reducible refine gate_dst (N := 2) rfl ?_); refine box_event ?hg (N := 2) ?hd (cs := #[.int .i64 a0_0, .int .i64 a0_1, .string a0_2]) (t := 120) ?hr ?_; (case hd => rfl); (case hg => rfl); (case hr => exact z11_); intro gb123 hg w6 hbox hb; have n0_ := a0_ (below_step z3_ hb); have n1_ := a0_ (hbox); have n2_ := a0_ ((z12_ : w.heap.size ≤ gb123)); have n3_ := a0_ ((z12_ : w.heap.size ≤ gb123)); clear HB; have HB := n0_; have BK123 := n1_; have GW123 := n2_; have GE123 := n3_; clear n0_ n1_ n2_ n3_; clear hb hbox hg) | ((with_reducible refine gate_dst (N := 3) rfl ?_); refine box_event ?hg (N := 3) ?hd (cs := #[.int .i64 a1_0, .int .i64 a1_1, .string a1_2]) (t := 120) ?hr ?_; (case hd => rfl); (case hg => rfl); (case hr => exact z11_); intro gb124 hg w7 hbox hb; have n0_ := a0_ (blk_below z42_ hb); have n1_ := a0_ (below_step z43_ hb); have n2_ := a0_ (hbox); have n3_ := a0_ ((z44_ : w.heap.size ≤ gb124)); have n4_ := a0_ ((z44_ : w.heap.size ≤ gb124)); have n5_ := a0_ ((by rw [hg]; exact Nat.ne_of_lt (blk_lt (g := gb123) (o := .cells #[.int .i64 a0_0, .int .i64 a0_1, .string a0_2] 120 (0, 0)) z42_) : gb123 ≠ gb124)); have n6_ := a0_ ((by rw [hg]; exact Nat.ne_of_gt (blk_lt (g := gb123) (o := .cells #[.int .i64 a0_0, .int .i64 a0_1, .string a0_2] 120 (0, 0)) z42_) : gb124 ≠ gb123)); clear BK123; clear HB; have BK123 := n0_; have HB := n1_; have BK124 := n2_; have GW124 := n3_; have GE124 := n4_; have NB123_124 := n5_; have NB124_123 := n6_; clear n0_ n1_ n2_ n3_ n4_ n5_ n6_; clear hb hbox hg))
 have n0_ := a0_ (blk_drew BK123.out)
 have n1_ := a0_ (blk_drew BK124.out)
 have n2_ := a0_ (below_drew1 HB.out)
 clear BK123
 clear BK124
 clear HB
 have BK123 := n0_
 have BK124 := n1_
 have HB := n2_
 clear n0_ n1_ n2_
 refine st_ 13 (S := fun w' => w'.cell? ⟨gb123, 0, none⟩ = some (.int .i64 a0_0) ∧ w'.cell? ⟨gb123, 1, none⟩ = some (.int .i64 a0_1) ∧ w'.cell? ⟨gb123, 2, none⟩ = some (.string a0_2) ∧ w'.cell? ⟨gb124, 0, none⟩ = some (.int .i64 a1_0) ∧ w'.cell? ⟨gb124, 1, none⟩ = some (.int .i64 a1_1) ∧ w'.cell? ⟨gb124, 2, none⟩ = some (.string a1_2)) (ds := []) ⟨(blk_cell BK123.out 0).trans rfl, (blk_cell BK123.out 1).trans rfl, (blk_cell BK123.out 2).trans rfl, (blk_cell BK124.out 0).trans rfl, (blk_cell BK124.out 1).trans rfl, (blk_cell BK124.out 2).trans rfl⟩ (fun hHeld => ?_); refine with_tabW fold_order.tab1 fold_order.bits1 (fun HT_ HW_ => ?_)
 generalize w7.drew = w8 at BK123 BK124 HB hHeld ⊢
 refine pq_ 0 (some 5) rfl rfl ?_
 refine pq_ 2 (some 7) rfl rfl ?_
 refine pq_ 5 (some 10) rfl rfl ?_
 refine pq_ 7 (some 12) rfl rfl ?_
 refine tq_ 1 (some 6) rfl rfl hHeld ?_
 refine tq_ 3 (some 8) rfl rfl hHeld ?_
 refine tq_ 6 (some 11) rfl rfl hHeld ?_
 refine tq_ 8 (some 13) rfl rfl hHeld ?_
 refine oq_ 4 (some 9) rfl rfl (fun K hK => ?_)
 refine goes_ Try.func110 z6_ rfl #[.int .i64 a0_0, .int .i64 a1_0] (by rfl) rfl rfl z16_ ?_
 with_reducible refine (cmp_Compare_int.calls a0_0 a1_0 t125 _ A3.out).mono ?_
 rintro e w' ⟨rfl, ⟨nd, rfl⟩⟩
 refine ⟨_, rfl, ?_⟩
 refine hK.out _ _ z45_ (fun hHeld => ?_)
 clear hK K
 refine norm_ (a' := ?_) ?_ ?_
 rotate_left
 ·show Act.put _ (some 9) _ = _
  exact put_
 refine oq_ 9 (some 14) rfl rfl (fun K hK => ?_)
 refine goes_ Try.func110 z6_ rfl #[.int .i64 a0_1, .int .i64 a1_1] (by rfl) rfl rfl z16_ ?_
 with_reducible refine (cmp_Compare_int.calls a0_1 a1_1 t126 _ A4.out).mono ?_
 rintro e w' ⟨rfl, ⟨nd, rfl⟩⟩
 refine ⟨_, rfl, ?_⟩
 refine hK.out _ _ z45_ (fun hHeld => ?_)
 clear hK K
 refine norm_ (a' := ?_) ?_ ?_
 rotate_left
 ·show Act.put _ (some 14) _ = _
  exact put_
 refine oq_ 10 (some 15) rfl rfl (fun K hK => ?_)
 refine Kd.R_lit_step (Kd.int .i64) _ 3 ?hg (N := 15) ?hd (xs := ([t125, t126] : List Int)) (inner := [.int .i64 t125, .int .i64 t126]) (ok := fun _ => True) (okp := fun _ => True) ?hr ?hp (fun _ hk => hk) trivial (Below.refl _ _) (Nat.le_refl _) (by simp) ?_; (case hd => rfl); (case hg => rfl); (case hr => exact z11_); (case hp => exact (Reps.one (show Kd.M (Kd.int .i64) _ _ _ t125 [.int .i64 t125] from rfl) (Reps.one (show Kd.M (Kd.int .i64) _ _ _ t126 [.int .i64 t126] from rfl) (Reps.none _ _))))
 intro v128 w9 ho10 hb hg_ hnew_
 clear hg_ hnew_
 (first | rw [← Ny127.out] at ho10 | (simp only [Int.reduceToNat] at ho10; rw [← Ny127.out] at ho10))
 have n0_ := a0_ (Kd.R_lower ho10 (below_size z46_))
 have n1_ := a0_ (blk_below z42_ hb)
 have n2_ := a0_ (blk_below (by (with_reducible repeat (first | refine blk_drewN ?_ _ | refine blk_drew ?_ | refine blk_alloc ?_ _)); exact BK124.out) hb)
 have n3_ := a0_ (below_step z46_ hb)
 clear BK123
 clear BK124
 clear HB
 have HO129 := n0_
 have BK123 := n1_
 have BK124 := n2_
 have HB := n3_
 clear n0_ n1_ n2_ n3_
 clear hb ho10
 obtain ⟨Ao11, co11, eo11⟩ := Kd.R_slice HO129.out
 (first | subst eo11 | (injection eo11 with f1_ f2_ f3_; have f4_ := f1_.symm; have f5_ := f3_.symm; clear f1_ f2_ f3_; subst f4_; subst f5_))
 refine hK.out _ _ z45_ (fun hHeld => ?_)
 clear hK K
 refine norm_ (a' := ?_) ?_ ?_
 rotate_left
 ·show Act.put _ (some 15) _ = _
  exact put_
 refine oq_ 11 (some 16) rfl rfl (fun K hK => ?_)
 refine goes_ Try.func109 z6_ rfl #[.slice Ao11 y127.length co11] (by rfl) rfl rfl z16_ ?_
 with_reducible refine (cmp_Or_int.calls k _ _ y127 t130 _ ?side1 ?side2 A5.out).mono ?_
 (case side1 => repeat (first | exact (Kd.R_reads' HO129.out).2.2 | (with_reducible refine Kd.C_alloc ?_ _) | (with_reducible refine Kd.C_drewN ?_ _) | (with_reducible refine Kd.C_drew ?_)))
 (case side2 => exact (Kd.R_reads' HO129.out).2.1)
 rintro e w' ⟨rfl, ⟨nd, rfl⟩⟩
 refine ⟨_, rfl, ?_⟩
 refine hK.out _ _ z45_ (fun hHeld => ?_)
 clear hK K
 refine norm_ (a' := ?_) ?_ ?_
 rotate_left
 ·show Act.put _ (some 16) _ = _
  exact put_
 refine pq_ 12 (some 4) rfl rfl ?_
 refine done_ (done_of HT_.out z6_) ?_
 try go_wp2
 go_ret
 exact ⟨z2_, z46_⟩
def fold_Folded.l0 : Nat → List (S120) → Int → Int → Option (Bool)
 | 0, _, _, _ => none
 | k + 1, x0, x5, x6 => if x6 < x5 then (if x6 > 0 then (if 0 ≤ (wrap64 (x6 - 1)) then (if (wrap64 (x6 - 1)) < (x0.length : Int) then (if 0 ≤ x6 then (if x6 < (x0.length : Int) then ((fold_order.f k ((rd_T120 x0 (wrap64 (x6 - 1))).f0) ((rd_T120 x0 (wrap64 (x6 - 1))).f1) ((rd_T120 x0 (wrap64 (x6 - 1))).f2) ((rd_T120 x0 x6).f0) ((rd_T120 x0 x6).f1) ((rd_T120 x0 x6).f2)).bind fun t133 => (if t133 ≥ 0 then (some false) else (fold_Folded.l0 k x0 x5 (wrap64 (x6 + 1))))) else (none)) else (none)) else (none)) else (none)) else (fold_Folded.l0 k x0 x5 (wrap64 (x6 + 1)))) else (some true)
def fold_Folded.f (k : Nat) (l0 : List (S120)) : Option (Bool) := fold_Folded.l0 k l0 (l0.length : Int) 0
def fold_Folded.T4 : Bool × List (List Nat × List Nat) := (true, [([], []), ([0], [0]), ([1], [1]), ([2], [2]), ([2], [2]), ([4, 2], [2, 4]), ([3, 5, 2], [2, 3, 5]), ([6, 2], [2, 6]), ([2], [2]), ([2], [2]), ([8, 9, 2], [2, 8, 9]), ([10, 2], [2, 10]), ([7, 11, 2, 2], [2, 7, 11]), ([12, 2], [2, 12]), ([2, 13], [2, 13])])
def fold_Folded.B4 : List Nat := [0, 1, 3, 7, 7, 23, 63, 127, 7, 7, 775, 1799, 4095, 8191, 16383]
theorem fold_Folded.tab4 : rtab .any (opsOf Try.f87 4) = fold_Folded.T4 := by kernel_rfl
theorem fold_Folded.bits4 : waitsOk fold_Folded.T4.2 fold_Folded.B4 = true := by kernel_rfl
set_option maxHeartbeats 8000000 in
set_option maxRecDepth 100000 in
theorem fold_Folded.calls (k : Nat) (A0 : Option Addr) (c0 : Nat) (l0 : List (S120)) (r : Bool) (w : World) (hr0 : Kd.C k120 w A0 l0.length l0) (hc0 : l0.length ≤ c0) (h : fold_Folded.f k l0 = some r) :
  Calls Try.prog 87 #[.slice A0 l0.length c0] w fun e w' => e = .returned (.bool r) ∧ Below w.heap.size w w' := by
 have hu120 := Try.underlying120
 have HR0 := a0_ hr0
 have HC0 := a0_ hc0
 clear hr0 hc0
 have HB := a0_ (Below.refl w.heap.size w)
 have H : (fold_Folded.l0 k l0 (l0.length : Int) 0) = some r := h
 clear h
 have H' := a0_ H
 clear H
 go_enter Try.func87, Try.ntmps87
 go_wp2
 go_loopg [6] k (fun kq v6 w' => ∃ (x6_1 : Int), v6 = .int .i64 x6_1 ∧ Aside0 (fold_Folded.l0 kq l0 (l0.length : Int) x6_1 = some r) ∧ Aside0 (kq ≤ k) ∧ Aside0 (Below w.heap.size w w'))
 case atStart => exact ⟨(0), z4_, H', ⟨Nat.le_refl _⟩, ⟨z3_⟩⟩
 case round =>
  clear H'
  obtain ⟨x6_1, rfl, HA, HK1, HB⟩ := hrel
  cases gk with
  | zero => exact absurd HA.out (by simp [fold_Folded.l0])
  | succ k1 =>
   have H := HA.out
   clear HA
   simp only [fold_Folded.l0] at H
   by_cases c2 : x6_1 < (l0.length : Int)
   ·rw [if_pos c2] at H
    have c2b0 : decide (x6_1 < (l0.length : Int)) = true := decide_eq_true c2
    clear c2
    by_cases c3 : x6_1 > 0
    ·rw [if_pos c3] at H
     have c3b0 : decide (0 < x6_1) = true := decide_eq_true c3
     clear c3
     obtain ⟨ji4, hji4⟩ : ∃ j_ : Int, (wrap64 (x6_1 - 1)) = j_ := ⟨_, rfl⟩
     replace H : (if 0 ≤ (ji4) then (if (ji4) < (l0.length : Int) then (if 0 ≤ x6_1 then (if x6_1 < (l0.length : Int) then ((fold_order.f k1 ((rd_T120 l0 (ji4)).f0) ((rd_T120 l0 (ji4)).f1) ((rd_T120 l0 (ji4)).f2) ((rd_T120 l0 x6_1).f0) ((rd_T120 l0 x6_1).f1) ((rd_T120 l0 x6_1).f2)).bind fun t133 => (if t133 ≥ 0 then (some false) else (fold_Folded.l0 k1 l0 (l0.length : Int) (wrap64 (x6_1 + 1))))) else (none)) else (none)) else (none)) else (none)) = some r := by first | (rw [hji4] at H; exact H) | (simp only [hji4] at H ⊢; exact H)
     have hji4w : (IntKind.i64.wrap (x6_1 - 1)) = ji4 := (i64_w _).trans hji4
     by_cases c5 : 0 ≤ (ji4)
     ·rw [if_pos c5] at H
      have c5b0 : decide (0 ≤ (ji4)) = true := decide_eq_true c5
      clear c5
      by_cases c6 : (ji4) < (l0.length : Int)
      ·rw [if_pos c6] at H
       have c6b0 : decide ((ji4) < (l0.length : Int)) = true := decide_eq_true c6
       clear c6
       by_cases c7 : 0 ≤ x6_1
       ·rw [if_pos c7] at H
        have c7b0 : decide (0 ≤ x6_1) = true := decide_eq_true c7
        clear c7
        by_cases c8 : x6_1 < (l0.length : Int)
        ·rw [if_pos c8] at H
         have c8b0 : decide (x6_1 < (l0.length : Int)) = true := decide_eq_true c8
         clear c8
         replace H := Option.bind_eq_some_iff.mp H
         obtain ⟨t133, A90, H⟩ := H
         try dsimp only at H
         have A9 := a0_ A90
         clear A90
         by_cases c10 : t133 ≥ 0
         ·rw [if_pos c10] at H
          have c10b0 : decide (0 ≤ t133) = true := decide_eq_true c10
          clear c10
          obtain rfl := Option.some.inj H
          try go_wp2
          have n0_ := a0_ (below_drew1 HB.out)
          clear HB
          have HB := n0_
          clear n0_
          have p131 : 0 ≤ ((ji4) : Int) := of_decide_eq_true z10_
          have q131 : (ji4) < (l0.length : Int) := of_decide_eq_true z10_
          obtain ⟨ad131, e131, hx131_0, hx131_1, hx131_2⟩ := at_T120 HR0.out (ji4) p131 q131
          have hw131_2 := hx131_2
          have hw131_1 := hx131_1
          have hw131_0 := hx131_0
          cases e131
          replace hx131_0 := (HB.out.cell (World.block_lt_of_cell? w _ hx131_0)).trans hx131_0
          replace hx131_1 := (HB.out.cell (World.block_lt_of_cell? w _ hx131_1)).trans hx131_1
          replace hx131_2 := (HB.out.cell (World.block_lt_of_cell? w _ hx131_2)).trans hx131_2
          replace p131 := eq_true p131
          replace q131 := eq_true q131
          have p132 : 0 ≤ (x6_1 : Int) := of_decide_eq_true z10_
          have q132 : x6_1 < (l0.length : Int) := of_decide_eq_true z10_
          obtain ⟨ad132, e132, hx132_0, hx132_1, hx132_2⟩ := at_T120 HR0.out x6_1 p132 q132
          have hw132_2 := hx132_2
          have hw132_1 := hx132_1
          have hw132_0 := hx132_0
          obtain rfl : ad131 = ad132 := (by injection e132)
          replace hx132_0 := (HB.out.cell (World.block_lt_of_cell? w _ hx132_0)).trans hx132_0
          replace hx132_1 := (HB.out.cell (World.block_lt_of_cell? w _ hx132_1)).trans hx132_1
          replace hx132_2 := (HB.out.cell (World.block_lt_of_cell? w _ hx132_2)).trans hx132_2
          replace p132 := eq_true p132
          replace q132 := eq_true q132
          refine st_ 15 (S := fun w' => w'.cell? (ad131.add (((ji4)).toNat * 3)) = some (.int .i64 ((rd_T120 l0 (ji4)).f0)) ∧ w'.cell? ⟨(ad131.add (((ji4)).toNat * 3)).block, (ad131.add (((ji4)).toNat * 3)).off + 1, none⟩ = some (.int .i64 ((rd_T120 l0 (ji4)).f1)) ∧ w'.cell? ⟨(ad131.add (((ji4)).toNat * 3)).block, (ad131.add (((ji4)).toNat * 3)).off + 2, none⟩ = some (.string ((rd_T120 l0 (ji4)).f2)) ∧ w'.cell? (ad131.add ((x6_1).toNat * 3)) = some (.int .i64 ((rd_T120 l0 x6_1).f0)) ∧ w'.cell? ⟨(ad131.add ((x6_1).toNat * 3)).block, (ad131.add ((x6_1).toNat * 3)).off + 1, none⟩ = some (.int .i64 ((rd_T120 l0 x6_1).f1)) ∧ w'.cell? ⟨(ad131.add ((x6_1).toNat * 3)).block, (ad131.add ((x6_1).toNat * 3)).off + 2, none⟩ = some (.string ((rd_T120 l0 x6_1).f2))) (ds := []) ⟨((HB.out.cell (World.block_lt_of_cell? w _ hw131_0)).trans hw131_0), ((HB.out.cell (World.block_lt_of_cell? w _ hw131_1)).trans hw131_1), ((HB.out.cell (World.block_lt_of_cell? w _ hw131_2)).trans hw131_2), ((HB.out.cell (World.block_lt_of_cell? w _ hw132_0)).trans hw132_0), ((HB.out.cell (World.block_lt_of_cell? w _ hw132_1)).trans hw132_1), ((HB.out.cell (World.block_lt_of_cell? w _ hw132_2)).trans hw132_2)⟩ (fun hHeld => ?_); refine with_tabW fold_Folded.tab4 fold_Folded.bits4 (fun HT_ HW_ => ?_)
          generalize wr.drew = w11 at HB hx131_0 hx131_1 hx131_2 hx132_0 hx132_1 hx132_2 hHeld ⊢
          refine pq_ 0 (some 9) rfl rfl ?_
          refine pq_ 1 (some 10) rfl rfl ?_
          refine pq_ 2 (some 11) rfl rfl ?_
          refine pq_ 3 (some 12) rfl rfl ?_
          refine pq_ 4 (some 13) rfl rfl ?_
          refine pq_ 5 (some 14) rfl rfl ?_
          refine pq_ 6 (some 15) rfl rfl ?_
          refine pq_ 8 (some 17) rfl rfl ?_
          refine pq_ 9 (some 18) rfl rfl ?_
          refine pq_ 10 (some 19) rfl rfl ?_
          refine tq_ 7 (some 16) rfl rfl hHeld ?_
          refine tq_ 11 (some 20) rfl rfl hHeld ?_
          refine oq_ 12 (some 21) rfl rfl (fun K hK => ?_)
          refine goes_ Try.func93 z6_ rfl #[.agg #[.int .i64 ((rd_T120 l0 (ji4)).f0), .int .i64 ((rd_T120 l0 (ji4)).f1), .string ((rd_T120 l0 (ji4)).f2)], .agg #[.int .i64 ((rd_T120 l0 x6_1).f0), .int .i64 ((rd_T120 l0 x6_1).f1), .string ((rd_T120 l0 x6_1).f2)]] (by rfl) rfl rfl z47_ ?_
          with_reducible refine (fold_order.calls k1 ((rd_T120 l0 (ji4)).f0) ((rd_T120 l0 (ji4)).f1) ((rd_T120 l0 (ji4)).f2) ((rd_T120 l0 x6_1).f0) ((rd_T120 l0 x6_1).f1) ((rd_T120 l0 x6_1).f2) t133 _ A9.out).mono ?_
          rintro e w12 ⟨rfl, hb⟩
          refine ⟨_, rfl, ?_⟩
          have n0_ := a0_ (below_step z3_ hb)
          clear HB
          have HB := n0_
          clear n0_
          (try clear hb)
          (try clear hb2)
          (try clear hk)
          (try clear hi)
          refine hK.out _ _ ⟨((HB.out.cell (World.block_lt_of_cell? w _ hw131_0)).trans hw131_0), ((HB.out.cell (World.block_lt_of_cell? w _ hw131_1)).trans hw131_1), ((HB.out.cell (World.block_lt_of_cell? w _ hw131_2)).trans hw131_2), ((HB.out.cell (World.block_lt_of_cell? w _ hw132_0)).trans hw132_0), ((HB.out.cell (World.block_lt_of_cell? w _ hw132_1)).trans hw132_1), ((HB.out.cell (World.block_lt_of_cell? w _ hw132_2)).trans hw132_2)⟩ (fun hHeld => ?_)
          clear hK K
          refine norm_ (a' := ?_) ?_ ?_
          rotate_left
          ·show Act.put _ (some 21) _ = _
           exact put_
          refine pq_ 13 (some 22) rfl rfl ?_
          refine pq_ 14 (some 23) rfl rfl ?_
          refine done_ (done_of HT_.out z6_) ?_
          try go_wp2
          go_ret
          exact ⟨by first | rfl | (simp [errW_none, errW_some] <;> rfl) | (simp only [← hji4]; first | rfl | (simp [errW_none, errW_some] <;> rfl)) | (simp [*, errW_none, errW_some] <;> rfl), z3_⟩
         ·rw [if_neg c10] at H
          have c10b0 : decide (0 ≤ t133) = false := decide_eq_false c10
          clear c10
          have H' := a0_ H
          clear H
          try go_wp2
          have n0_ := a0_ (below_drew1 HB.out)
          clear HB
          have HB := n0_
          clear n0_
          have p131 : 0 ≤ ((ji4) : Int) := of_decide_eq_true z10_
          have q131 : (ji4) < (l0.length : Int) := of_decide_eq_true z10_
          obtain ⟨ad131, e131, hx131_0, hx131_1, hx131_2⟩ := at_T120 HR0.out (ji4) p131 q131
          have hw131_2 := hx131_2
          have hw131_1 := hx131_1
          have hw131_0 := hx131_0
          cases e131
          replace hx131_0 := (HB.out.cell (World.block_lt_of_cell? w _ hx131_0)).trans hx131_0
          replace hx131_1 := (HB.out.cell (World.block_lt_of_cell? w _ hx131_1)).trans hx131_1
          replace hx131_2 := (HB.out.cell (World.block_lt_of_cell? w _ hx131_2)).trans hx131_2
          replace p131 := eq_true p131
          replace q131 := eq_true q131
          have p132 : 0 ≤ (x6_1 : Int) := of_decide_eq_true z10_
          have q132 : x6_1 < (l0.length : Int) := of_decide_eq_true z10_
          obtain ⟨ad132, e132, hx132_0, hx132_1, hx132_2⟩ := at_T120 HR0.out x6_1 p132 q132
          have hw132_2 := hx132_2
          have hw132_1 := hx132_1
          have hw132_0 := hx132_0
          obtain rfl : ad131 = ad132 := (by injection e132)
          replace hx132_0 := (HB.out.cell (World.block_lt_of_cell? w _ hx132_0)).trans hx132_0
          replace hx132_1 := (HB.out.cell (World.block_lt_of_cell? w _ hx132_1)).trans hx132_1
          replace hx132_2 := (HB.out.cell (World.block_lt_of_cell? w _ hx132_2)).trans hx132_2
          replace p132 := eq_true p132
          replace q132 := eq_true q132
          refine st_ 15 (S := fun w' => w'.cell? (ad131.add (((ji4)).toNat * 3)) = some (.int .i64 ((rd_T120 l0 (ji4)).f0)) ∧ w'.cell? ⟨(ad131.add (((ji4)).toNat * 3)).block, (ad131.add (((ji4)).toNat * 3)).off + 1, none⟩ = some (.int .i64 ((rd_T120 l0 (ji4)).f1)) ∧ w'.cell? ⟨(ad131.add (((ji4)).toNat * 3)).block, (ad131.add (((ji4)).toNat * 3)).off + 2, none⟩ = some (.string ((rd_T120 l0 (ji4)).f2)) ∧ w'.cell? (ad131.add ((x6_1).toNat * 3)) = some (.int .i64 ((rd_T120 l0 x6_1).f0)) ∧ w'.cell? ⟨(ad131.add ((x6_1).toNat * 3)).block, (ad131.add ((x6_1).toNat * 3)).off + 1, none⟩ = some (.int .i64 ((rd_T120 l0 x6_1).f1)) ∧ w'.cell? ⟨(ad131.add ((x6_1).toNat * 3)).block, (ad131.add ((x6_1).toNat * 3)).off + 2, none⟩ = some (.string ((rd_T120 l0 x6_1).f2))) (ds := []) ⟨((HB.out.cell (World.block_lt_of_cell? w _ hw131_0)).trans hw131_0), ((HB.out.cell (World.block_lt_of_cell? w _ hw131_1)).trans hw131_1), ((HB.out.cell (World.block_lt_of_cell? w _ hw131_2)).trans hw131_2), ((HB.out.cell (World.block_lt_of_cell? w _ hw132_0)).trans hw132_0), ((HB.out.cell (World.block_lt_of_cell? w _ hw132_1)).trans hw132_1), ((HB.out.cell (World.block_lt_of_cell? w _ hw132_2)).trans hw132_2)⟩ (fun hHeld => ?_); refine with_tabW fold_Folded.tab4 fold_Folded.bits4 (fun HT_ HW_ => ?_)
          generalize wr.drew = w13 at HB hx131_0 hx131_1 hx131_2 hx132_0 hx132_1 hx132_2 hHeld ⊢
          refine pq_ 0 (some 9) rfl rfl ?_
          refine pq_ 1 (some 10) rfl rfl ?_
          refine pq_ 2 (some 11) rfl rfl ?_
          refine pq_ 3 (some 12) rfl rfl ?_
          refine pq_ 4 (some 13) rfl rfl ?_
          refine pq_ 5 (some 14) rfl rfl ?_
          refine pq_ 6 (some 15) rfl rfl ?_
          refine pq_ 8 (some 17) rfl rfl ?_
          refine pq_ 9 (some 18) rfl rfl ?_
          refine pq_ 10 (some 19) rfl rfl ?_
          refine tq_ 7 (some 16) rfl rfl hHeld ?_
          refine tq_ 11 (some 20) rfl rfl hHeld ?_
          refine oq_ 12 (some 21) rfl rfl (fun K hK => ?_)
          refine goes_ Try.func93 z6_ rfl #[.agg #[.int .i64 ((rd_T120 l0 (ji4)).f0), .int .i64 ((rd_T120 l0 (ji4)).f1), .string ((rd_T120 l0 (ji4)).f2)], .agg #[.int .i64 ((rd_T120 l0 x6_1).f0), .int .i64 ((rd_T120 l0 x6_1).f1), .string ((rd_T120 l0 x6_1).f2)]] (by rfl) rfl rfl z47_ ?_
          with_reducible refine (fold_order.calls k1 ((rd_T120 l0 (ji4)).f0) ((rd_T120 l0 (ji4)).f1) ((rd_T120 l0 (ji4)).f2) ((rd_T120 l0 x6_1).f0) ((rd_T120 l0 x6_1).f1) ((rd_T120 l0 x6_1).f2) t133 _ A9.out).mono ?_
          rintro e w14 ⟨rfl, hb⟩
          refine ⟨_, rfl, ?_⟩
          have n0_ := a0_ (below_step z3_ hb)
          clear HB
          have HB := n0_
          clear n0_
          (try clear hb)
          (try clear hb2)
          (try clear hk)
          (try clear hi)
          refine hK.out _ _ ⟨((HB.out.cell (World.block_lt_of_cell? w _ hw131_0)).trans hw131_0), ((HB.out.cell (World.block_lt_of_cell? w _ hw131_1)).trans hw131_1), ((HB.out.cell (World.block_lt_of_cell? w _ hw131_2)).trans hw131_2), ((HB.out.cell (World.block_lt_of_cell? w _ hw132_0)).trans hw132_0), ((HB.out.cell (World.block_lt_of_cell? w _ hw132_1)).trans hw132_1), ((HB.out.cell (World.block_lt_of_cell? w _ hw132_2)).trans hw132_2)⟩ (fun hHeld => ?_)
          clear hK K
          refine norm_ (a' := ?_) ?_ ?_
          rotate_left
          ·show Act.put _ (some 21) _ = _
           exact put_
          refine pq_ 13 (some 22) rfl rfl ?_
          refine pq_ 14 (some 23) rfl rfl ?_
          refine done_ (done_of HT_.out z6_) ?_
          try go_wp2
          go_roundg k1
          case measure => have := HK1.out; omega
          case rel => exact ⟨(wrap64 (x6_1 + 1)), z4_, H', ⟨z39_⟩, ⟨z3_⟩⟩
        ·rw [if_neg c8] at H
         exact absurd H (by simp)
       ·rw [if_neg c7] at H
        exact absurd H (by simp)
      ·rw [if_neg c6] at H
       exact absurd H (by simp)
     ·rw [if_neg c5] at H
      exact absurd H (by simp)
    ·rw [if_neg c3] at H
     have c3b0 : decide (0 < x6_1) = false := decide_eq_false c3
     clear c3
     have H' := a0_ H
     clear H
     try go_wp2
     have n0_ := a0_ (below_drew1 HB.out)
     clear HB
     have HB := n0_
     clear n0_
     refine st_ 15 (S := fun w' => True) (ds := []) trivial (fun hHeld => ?_); refine with_tabW fold_Folded.tab4 fold_Folded.bits4 (fun HT_ HW_ => ?_)
     generalize wr.drew = w15 at HB hHeld ⊢
     refine pq_ 0 (some 9) rfl rfl ?_
     refine pq_ 1 (some 10) rfl rfl ?_
     refine pq_ 2 (some 11) rfl rfl ?_
     refine pw_ 3 (some 12) rfl rfl ?_
     refine pw_ 4 (some 13) rfl rfl ?_
     refine pw_ 5 (some 14) rfl rfl ?_
     refine pw_ 6 (some 15) rfl rfl ?_
     refine pw_ 7 (some 16) rfl rfl ?_
     refine pw_ 8 (some 17) rfl rfl ?_
     refine pw_ 9 (some 18) rfl rfl ?_
     refine pw_ 10 (some 19) rfl rfl ?_
     refine pw_ 11 (some 20) rfl rfl ?_
     refine pw_ 12 (some 21) rfl rfl ?_
     refine pw_ 13 (some 22) rfl rfl ?_
     refine pq_ 14 (some 23) rfl rfl ?_
     refine done_ (done_of HT_.out z6_) ?_
     try go_wp2
     go_roundg k1
     case measure => have := HK1.out; omega
     case rel => exact ⟨(wrap64 (x6_1 + 1)), z4_, H', ⟨z39_⟩, ⟨z3_⟩⟩
   ·rw [if_neg c2] at H
    have c2b0 : decide (x6_1 < (l0.length : Int)) = false := decide_eq_false c2
    clear c2
    obtain rfl := Option.some.inj H
    go_wp2
    go_ret
    exact ⟨z2_, z3_⟩
end Go.Proofs.Ytecfndblgefhdaa.R
