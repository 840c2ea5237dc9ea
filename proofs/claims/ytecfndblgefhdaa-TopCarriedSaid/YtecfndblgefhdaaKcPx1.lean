import Derived.Test.YtecfndblgefhdaaKcPx0
namespace Go.Proofs.Ytecfndblgefhdaa.P
open Go.RowKit Go.Proofs.YtecfndblgefhdaaW.PrintWords Go.Proofs.YtecfndblgefhdaaW.PrintLast Go.Proofs.YtecfndblgefhdaaW.PrintMore
attribute [local go_sem] max2_int min2_int max_two min_two max_three min_three max_four min_four
set_option linter.unusedVariables false
set_option linter.unusedSimpArgs false
theorem qpx13_ {p : Prop} (h : p := by exact ⟨z3_, z4_⟩) : p := h
theorem qpx12_ {p : Prop} (h : p := by exact ⟨z3_, z5_⟩) : p := h
theorem qpx11_ {p : Prop} (h : p := by exact ⟨z3_, z6_⟩) : p := h
theorem qpx10_ {p : Prop} (h : p := by exact ⟨z3_, by repeat (first | (with_reducible first | exact HB.out | apply below_alloc | apply pw_below_drewN | apply below_drew1 | refine below_set ?_ GE101.out) | exact HB.out)⟩) : p := h
def msg_writable_1.f (a0_0 : Int) (a0_1 : Int) (a0_2 : ByteArray) : Option (Bool) := if a0_0 < 1 then (some true) else (if a0_0 > 255 then (some true) else (if a0_1 < 0 then (some true) else (if a0_1 ≥ 32 then (some true) else (some (decide ((a0_2.size : Int) > 8))))))
set_option maxHeartbeats 8000000 in
set_option maxRecDepth 100000 in
theorem msg_writable_1.calls (a0_0 : Int) (a0_1 : Int) (a0_2 : ByteArray) (r : Bool) (w : World) (h : msg_writable_1.f a0_0 a0_1 a0_2 = some r) :
  Calls Try.prog 100 #[.agg #[.int .i64 a0_0, .int .i64 a0_1, .string a0_2]] w fun e w' => e = .returned (.bool r) ∧ Below w.heap.size w w' := by
 have hu120 := Try.underlying120
 have HB := a0_ (Below.refl w.heap.size w)
 have H : (if a0_0 < 1 then (some true) else (if a0_0 > 255 then (some true) else (if a0_1 < 0 then (some true) else (if a0_1 ≥ 32 then (some true) else (some (decide ((a0_2.size : Int) > 8))))))) = some r := h
 clear h
 by_cases c2 : a0_0 < 1
 ·rw [if_pos c2] at H
  have c2b0 : decide (a0_0 < 1) = true := decide_eq_true c2
  clear c2
  obtain rfl := Option.some.inj H
  go_enter Try.func100, Try.ntmps100
  go_wp2_with (first | ((with_reducible refine gate_dst (N := 1) rfl ?_); (try (refine gate_guard (by rfl) ?_; dsimp only)); refine box_event ?hg (N := 1) ?hd (cs := #[.int .i64 a0_0, .int .i64 a0_1, .string a0_2]) (t := 120) ?hr ?_; (case hd => rfl); (case hg => rfl); (case hr => exact z7_); intro gb101 hg w3 hbox hb; have n0_ := a0_ (below_step z6_ hb); have n1_ := a0_ (hbox); have n2_ := a0_ ((z8_ : w.heap.size ≤ gb101)); have n3_ := a0_ ((z8_ : w.heap.size ≤ gb101)); clear HB; have HB := n0_; have BK101 := n1_; have GW101 := n2_; have GE101 := n3_; clear n0_ n1_ n2_ n3_; clear hb hbox hg; obtain ⟨hcz4_0, hcz4_1, hcz4_2⟩ := bc3_ BK101.out; obtain ⟨hfz4_0, hfz4_1, hfz4_2⟩ := bf3_ BK101.out))
  go_ret
  exact qpx10_
 ·rw [if_neg c2] at H
  have c2b0 : decide (a0_0 < 1) = false := decide_eq_false c2
  clear c2
  by_cases c5 : a0_0 > 255
  ·rw [if_pos c5] at H
   have c5b0 : decide (255 < a0_0) = true := decide_eq_true c5
   clear c5
   obtain rfl := Option.some.inj H
   go_enter Try.func100, Try.ntmps100
   go_wp2_with (first | ((with_reducible refine gate_dst (N := 1) rfl ?_); (try (refine gate_guard (by rfl) ?_; dsimp only)); refine box_event ?hg (N := 1) ?hd (cs := #[.int .i64 a0_0, .int .i64 a0_1, .string a0_2]) (t := 120) ?hr ?_; (case hd => rfl); (case hg => rfl); (case hr => exact z7_); intro gb101 hg w6 hbox hb; have n0_ := a0_ (below_step z6_ hb); have n1_ := a0_ (hbox); have n2_ := a0_ ((z8_ : w.heap.size ≤ gb101)); have n3_ := a0_ ((z8_ : w.heap.size ≤ gb101)); clear HB; have HB := n0_; have BK101 := n1_; have GW101 := n2_; have GE101 := n3_; clear n0_ n1_ n2_ n3_; clear hb hbox hg; obtain ⟨hcz7_0, hcz7_1, hcz7_2⟩ := bc3_ BK101.out; obtain ⟨hfz7_0, hfz7_1, hfz7_2⟩ := bf3_ BK101.out))
   go_ret
   exact qpx10_
  ·rw [if_neg c5] at H
   have c5b0 : decide (255 < a0_0) = false := decide_eq_false c5
   clear c5
   by_cases c8 : a0_1 < 0
   ·rw [if_pos c8] at H
    have c8b0 : decide (a0_1 < 0) = true := decide_eq_true c8
    clear c8
    obtain rfl := Option.some.inj H
    go_enter Try.func100, Try.ntmps100
    go_wp2_with (first | ((with_reducible refine gate_dst (N := 1) rfl ?_); (try (refine gate_guard (by rfl) ?_; dsimp only)); refine box_event ?hg (N := 1) ?hd (cs := #[.int .i64 a0_0, .int .i64 a0_1, .string a0_2]) (t := 120) ?hr ?_; (case hd => rfl); (case hg => rfl); (case hr => exact z7_); intro gb101 hg w9 hbox hb; have n0_ := a0_ (below_step z6_ hb); have n1_ := a0_ (hbox); have n2_ := a0_ ((z8_ : w.heap.size ≤ gb101)); have n3_ := a0_ ((z8_ : w.heap.size ≤ gb101)); clear HB; have HB := n0_; have BK101 := n1_; have GW101 := n2_; have GE101 := n3_; clear n0_ n1_ n2_ n3_; clear hb hbox hg; obtain ⟨hcz10_0, hcz10_1, hcz10_2⟩ := bc3_ BK101.out; obtain ⟨hfz10_0, hfz10_1, hfz10_2⟩ := bf3_ BK101.out))
    go_ret
    exact qpx10_
   ·rw [if_neg c8] at H
    have c8b0 : decide (a0_1 < 0) = false := decide_eq_false c8
    clear c8
    by_cases c11 : a0_1 ≥ 32
    ·rw [if_pos c11] at H
     have c11b0 : decide (32 ≤ a0_1) = true := decide_eq_true c11
     clear c11
     obtain rfl := Option.some.inj H
     go_enter Try.func100, Try.ntmps100
     go_wp2_with (first | ((with_reducible refine gate_dst (N := 1) rfl ?_); (try (refine gate_guard (by rfl) ?_; dsimp only)); refine box_event ?hg (N := 1) ?hd (cs := #[.int .i64 a0_0, .int .i64 a0_1, .string a0_2]) (t := 120) ?hr ?_; (case hd => rfl); (case hg => rfl); (case hr => exact z7_); intro gb101 hg w12 hbox hb; have n0_ := a0_ (below_step z6_ hb); have n1_ := a0_ (hbox); have n2_ := a0_ ((z8_ : w.heap.size ≤ gb101)); have n3_ := a0_ ((z8_ : w.heap.size ≤ gb101)); clear HB; have HB := n0_; have BK101 := n1_; have GW101 := n2_; have GE101 := n3_; clear n0_ n1_ n2_ n3_; clear hb hbox hg; obtain ⟨hcz13_0, hcz13_1, hcz13_2⟩ := bc3_ BK101.out; obtain ⟨hfz13_0, hfz13_1, hfz13_2⟩ := bf3_ BK101.out))
     go_ret
     exact qpx10_
    ·rw [if_neg c11] at H
     have c11b0 : decide (32 ≤ a0_1) = false := decide_eq_false c11
     clear c11
     obtain rfl := Option.some.inj H
     go_enter Try.func100, Try.ntmps100
     go_wp2_with (first | ((with_reducible refine gate_dst (N := 1) rfl ?_); (try (refine gate_guard (by rfl) ?_; dsimp only)); refine box_event ?hg (N := 1) ?hd (cs := #[.int .i64 a0_0, .int .i64 a0_1, .string a0_2]) (t := 120) ?hr ?_; (case hd => rfl); (case hg => rfl); (case hr => exact z7_); intro gb101 hg w14 hbox hb; have n0_ := a0_ (below_step z6_ hb); have n1_ := a0_ (hbox); have n2_ := a0_ ((z8_ : w.heap.size ≤ gb101)); have n3_ := a0_ ((z8_ : w.heap.size ≤ gb101)); clear HB; have HB := n0_; have BK101 := n1_; have GW101 := n2_; have GE101 := n3_; clear n0_ n1_ n2_ n3_; clear hb hbox hg; obtain ⟨hcz15_0, hcz15_1, hcz15_2⟩ := bc3_ BK101.out; obtain ⟨hfz15_0, hfz15_1, hfz15_2⟩ := bf3_ BK101.out))
     go_ret
     exact qpx10_
def link_Right_1.f (a0 : ByteArray) : Option (Bool) := some (decide ((a0.size : Int) > 512))
set_option maxHeartbeats 8000000 in
set_option maxRecDepth 100000 in
theorem link_Right_1.calls (a0 : ByteArray) (r : Bool) (w : World) (h : link_Right_1.f a0 = some r) :
  Calls Try.prog 97 #[.string a0] w fun e w' => e = .returned (.bool r) ∧ Drawn0 w w' := by
 have H : (some (decide ((a0.size : Int) > 512))) = some r := h
 clear h
 obtain rfl := Option.some.inj H
 go_enter Try.func97, Try.ntmps97
 go_wp2
 go_ret
 exact ⟨z9_, z10_⟩
def vols_Right_1.f (a0 : ByteArray) : Option (Bool) := some (decide ((a0.size : Int) > 8))
set_option maxHeartbeats 8000000 in
set_option maxRecDepth 100000 in
theorem vols_Right_1.calls (a0 : ByteArray) (r : Bool) (w : World) (h : vols_Right_1.f a0 = some r) :
  Calls Try.prog 84 #[.string a0] w fun e w' => e = .returned (.bool r) ∧ Drawn0 w w' := by
 have H : (some (decide ((a0.size : Int) > 8))) = some r := h
 clear h
 obtain rfl := Option.some.inj H
 go_enter Try.func84, Try.ntmps84
 go_wp2
 go_ret
 exact ⟨z9_, z10_⟩
def link_number.f (a0 : Int) (a1 : Int) : Option (Bool) := if a0 ≥ a1 then (some (decide (a0 ≤ 1099511627776))) else (some false)
set_option maxHeartbeats 8000000 in
set_option maxRecDepth 100000 in
theorem link_number.calls (a0 : Int) (a1 : Int) (r : Bool) (w : World) (h : link_number.f a0 a1 = some r) :
  Calls Try.prog 28 #[.int .i64 a0, .int .i64 a1] w fun e w' => e = .returned (.bool r) ∧ Drawn0 w w' := by
 have H : (if a0 ≥ a1 then (some (decide (a0 ≤ 1099511627776))) else (some false)) = some r := h
 clear h
 by_cases c3 : a0 ≥ a1
 ·rw [if_pos c3] at H
  have c3b0 : decide (a1 ≤ a0) = true := decide_eq_true c3
  clear c3
  obtain rfl := Option.some.inj H
  go_enter Try.func28, Try.ntmps28
  go_wp2
  go_ret
  exact ⟨z9_, z10_⟩
 ·rw [if_neg c3] at H
  have c3b0 : decide (a1 ≤ a0) = false := decide_eq_false c3
  clear c3
  obtain rfl := Option.some.inj H
  go_enter Try.func28, Try.ntmps28
  go_wp2
  go_ret
  exact ⟨z9_, z10_⟩
def link_New.f (a0 : Int) : Option (Int × Int × Int × List ByteArray × Int × Int) := (link_number.f a0 1).bind fun t103 => (if t103 = true then (some (a0, 0, 1, ([] : List ByteArray), 1, 0)) else (some (0, 0, 0, ([] : List ByteArray), 0, 1)))
set_option maxHeartbeats 8000000 in
set_option maxRecDepth 100000 in
theorem link_New.calls (a0 : Int) (r1 : Int) (r2 : Int) (r3 : Int) (r4 : List ByteArray) (r5 : Int) (r6 : Int) (w : World) (h : link_New.f a0 = some (r1, r2, r3, r4, r5, r6)) :
  Calls Try.prog 6 #[.int .i64 a0] w fun e w' => ∃ v3_ : Value, e = .returned (.tuple #[.agg #[.int .i64 r1, .int .i64 r2, .int .i64 r3, v3_, .int .i64 r5], .int .i64 r6]) ∧ Kd.R Kd.string 9 w' w.heap.size (fun _ => True) v3_ r4 ∧ Below w.heap.size w w' := by
 have hu26 := Try.underlying26
 have HB := a0_ (Below.refl w.heap.size w)
 have H : ((link_number.f a0 1).bind fun t103 => (if t103 = true then (some (a0, 0, 1, ([] : List ByteArray), 1, 0)) else (some (0, 0, 0, ([] : List ByteArray), 0, 1)))) = some (r1, r2, r3, r4, r5, r6) := h
 clear h
 replace H := Option.bind_eq_some_iff.mp H
 obtain ⟨t103, A20, H⟩ := H
 try dsimp only at H
 have A2 := a0_ A20
 clear A20
 by_cases c3 : t103 = true
 ·subst c3
  rw [if_pos rfl] at H
  simp only [Option.some.injEq, Prod.mk.injEq] at H
  obtain ⟨rfl, rfl, rfl, rfl, rfl, rfl⟩ := H
  go_enter Try.func6, Try.ntmps6
  go_wp2_with (first | ((with_reducible refine gate_dst (N := 2) rfl ?_); refine box_event ?hg (N := 2) ?hd (cs := #[.int .i64 0, .int .i64 0, .int .i64 0, .slice none 0 0, .int .i64 0]) (t := 26) ?hr ?_; (case hd => rfl); (case hg => rfl); (case hr => exact z7_); intro gb102 hg w4 hbox hb; have n0_ := a0_ (below_step z6_ hb); have n1_ := a0_ (hbox); have n2_ := a0_ ((z8_ : w.heap.size ≤ gb102)); have n3_ := a0_ ((z8_ : w.heap.size ≤ gb102)); clear HB; have HB := n0_; have BK102 := n1_; have GW102 := n2_; have GE102 := n3_; clear n0_ n1_ n2_ n3_; clear hb hbox hg) | ((with_reducible refine gate_callee (f := 28) rfl ?_); refine goesL_ (some 5) rfl rfl Try.func28 z11_ rfl #[.int .i64 a0, .int .i64 1] rfl z12_ ?_; (with_reducible refine (link_number.calls a0 1 true _ A2.out).mono ?_); rintro e w' ⟨rfl, ⟨nd, rfl⟩⟩; refine ⟨_, rfl, ?_⟩; (try (rw [drewN_self w4]; generalize hq_ : World.drewN w4 _ = w4; have n0_ : Aside0 (w4.heap[gb102]? = some (.cells #[.int .i64 0, .int .i64 0, .int .i64 0, .slice none 0 0, .int .i64 0] 26 (0, 0))) := ⟨z13_⟩; have n1_ : Aside0 (Below w.heap.size w w4) := ⟨z14_⟩; clear BK102 HB hq_; have BK102 := n0_; have HB := n1_; clear n0_ n1_)); obtain ⟨hcz5_0, hcz5_1, hcz5_2, hcz5_3, hcz5_4⟩ := bc5_ BK102.out; obtain ⟨hfz5_0, hfz5_1, hfz5_2, hfz5_3, hfz5_4⟩ := bf5_ BK102.out))
  refine bodyPost_ret (results_ct rfl _ _ gb102 26 #[.int .i64 a0, .int .i64 0, .int .i64 1, .slice none 0 0, .int .i64 1] (0, 0) _ rfl (by (with_reducible repeat (first | refine blk_drewN ?_ _ | refine blk_drew ?_ | refine blk_alloc ?_ _)); refine blk_put (cs := #[.int .i64 a0, .int .i64 0, .int .i64 1, .slice none 0 0, .int .i64 0]) ?_ 4 _ rfl; (with_reducible repeat (first | refine blk_drewN ?_ _ | refine blk_drew ?_ | refine blk_alloc ?_ _)); refine blk_put (cs := #[.int .i64 a0, .int .i64 0, .int .i64 1, .slice none 0 0, .int .i64 0]) ?_ 3 _ rfl; (with_reducible repeat (first | refine blk_drewN ?_ _ | refine blk_drew ?_ | refine blk_alloc ?_ _)); refine blk_put (cs := #[.int .i64 a0, .int .i64 0, .int .i64 0, .slice none 0 0, .int .i64 0]) ?_ 2 _ rfl; (with_reducible repeat (first | refine blk_drewN ?_ _ | refine blk_drew ?_ | refine blk_alloc ?_ _)); refine blk_put (cs := #[.int .i64 a0, .int .i64 0, .int .i64 0, .slice none 0 0, .int .i64 0]) ?_ 1 _ rfl; (with_reducible repeat (first | refine blk_drewN ?_ _ | refine blk_drew ?_ | refine blk_alloc ?_ _)); refine blk_put (cs := #[.int .i64 0, .int .i64 0, .int .i64 0, .slice none 0 0, .int .i64 0]) ?_ 0 _ rfl; (with_reducible repeat (first | refine blk_drewN ?_ _ | refine blk_drew ?_ | refine blk_alloc ?_ _)); exact BK102.out) Try.underlying26 rfl z11_) rfl ?_
  exact ⟨_, z3_, z15_, z16_⟩
 ·replace c3 := Bool.eq_false_iff.mpr c3
  subst c3
  rw [if_neg (show ¬ (false = true) from z17_)] at H
  simp only [Option.some.injEq, Prod.mk.injEq] at H
  obtain ⟨rfl, rfl, rfl, rfl, rfl, rfl⟩ := H
  go_enter Try.func6, Try.ntmps6
  go_wp2_with (first | ((with_reducible refine gate_dst (N := 2) rfl ?_); refine box_event ?hg (N := 2) ?hd (cs := #[.int .i64 0, .int .i64 0, .int .i64 0, .slice none 0 0, .int .i64 0]) (t := 26) ?hr ?_; (case hd => rfl); (case hg => rfl); (case hr => exact z7_); intro gb102 hg w6 hbox hb; have n0_ := a0_ (below_step z6_ hb); have n1_ := a0_ (hbox); have n2_ := a0_ ((z8_ : w.heap.size ≤ gb102)); have n3_ := a0_ ((z8_ : w.heap.size ≤ gb102)); clear HB; have HB := n0_; have BK102 := n1_; have GW102 := n2_; have GE102 := n3_; clear n0_ n1_ n2_ n3_; clear hb hbox hg) | ((with_reducible refine gate_callee (f := 28) rfl ?_); refine goesL_ (some 5) rfl rfl Try.func28 z11_ rfl #[.int .i64 a0, .int .i64 1] rfl z12_ ?_; (with_reducible refine (link_number.calls a0 1 false _ A2.out).mono ?_); rintro e w' ⟨rfl, ⟨nd, rfl⟩⟩; refine ⟨_, rfl, ?_⟩; (try (rw [drewN_self w6]; generalize hq_ : World.drewN w6 _ = w6; have n0_ : Aside0 (w6.heap[gb102]? = some (.cells #[.int .i64 0, .int .i64 0, .int .i64 0, .slice none 0 0, .int .i64 0] 26 (0, 0))) := ⟨z13_⟩; have n1_ : Aside0 (Below w.heap.size w w6) := ⟨z14_⟩; clear BK102 HB hq_; have BK102 := n0_; have HB := n1_; clear n0_ n1_)); obtain ⟨hcz7_0, hcz7_1, hcz7_2, hcz7_3, hcz7_4⟩ := bc5_ BK102.out; obtain ⟨hfz7_0, hfz7_1, hfz7_2, hfz7_3, hfz7_4⟩ := bf5_ BK102.out))
  refine bodyPost_ret (results_ct rfl _ _ gb102 26 #[.int .i64 0, .int .i64 0, .int .i64 0, .slice none 0 0, .int .i64 0] (0, 0) _ rfl (by (with_reducible repeat (first | refine blk_drewN ?_ _ | refine blk_drew ?_ | refine blk_alloc ?_ _)); refine blk_put (cs := #[.int .i64 0, .int .i64 0, .int .i64 0, .slice none 0 0, .int .i64 0]) ?_ 4 _ rfl; (with_reducible repeat (first | refine blk_drewN ?_ _ | refine blk_drew ?_ | refine blk_alloc ?_ _)); refine blk_put (cs := #[.int .i64 0, .int .i64 0, .int .i64 0, .slice none 0 0, .int .i64 0]) ?_ 3 _ rfl; (with_reducible repeat (first | refine blk_drewN ?_ _ | refine blk_drew ?_ | refine blk_alloc ?_ _)); refine blk_put (cs := #[.int .i64 0, .int .i64 0, .int .i64 0, .slice none 0 0, .int .i64 0]) ?_ 2 _ rfl; (with_reducible repeat (first | refine blk_drewN ?_ _ | refine blk_drew ?_ | refine blk_alloc ?_ _)); refine blk_put (cs := #[.int .i64 0, .int .i64 0, .int .i64 0, .slice none 0 0, .int .i64 0]) ?_ 1 _ rfl; (with_reducible repeat (first | refine blk_drewN ?_ _ | refine blk_drew ?_ | refine blk_alloc ?_ _)); refine blk_put (cs := #[.int .i64 0, .int .i64 0, .int .i64 0, .slice none 0 0, .int .i64 0]) ?_ 0 _ rfl; (with_reducible repeat (first | refine blk_drewN ?_ _ | refine blk_drew ?_ | refine blk_alloc ?_ _)); exact BK102.out) Try.underlying26 rfl z11_) rfl ?_
  exact ⟨_, z3_, z15_, z16_⟩
mutual
def line_Right.j0 : Nat → List (S160) → Bool → Option (Bool)
 | 0, _, _ => none
 | k + 1, x0, x21 => if x21 = true then (some false) else (line_Right.l0 k 0 0 x0 (x0.length : Int) 0)
def line_Right.l0 : Nat → Int → Int → List (S160) → Int → Int → Option (Bool)
 | 0, _, _, _, _, _ => none
 | k + 1, x3, x4, x22, x23, x24 => if x24 < x23 then (if 0 ≤ x24 then (if x24 < (x22.length : Int) then (if ((rd_T160 x22 x24).f0) ≤ x3 then (some false) else (if ((rd_T160 x22 x24).f0) > 1099511627776 then (some false) else (if ((rd_T160 x22 x24).f1) < x4 then (some false) else (if ((rd_T160 x22 x24).f1) > 1099511627776 then (some false) else (line_Right.l0 k ((rd_T160 x22 x24).f0) ((rd_T160 x22 x24).f1) x22 x23 (wrap64 (x24 + 1))))))) else (none)) else (none)) else (some true)
end
def line_Right.f (k : Nat) (l0 : List (S160)) : Option (Bool) := if (l0.length : Int) < 1 then (line_Right.j0 k l0 true) else (if (l0.length : Int) > 64 then (line_Right.j0 k l0 true) else (if 0 < (l0.length : Int) then (line_Right.j0 k l0 (((rd_T160 l0 0).f1) != 0)) else (none)))
set_option maxHeartbeats 8000000 in
set_option maxRecDepth 100000 in
theorem line_Right.calls (k : Nat) (A0 : Option Addr) (c0 : Nat) (l0 : List (S160)) (r : Bool) (w : World) (hr0 : Kd.C k160 w A0 l0.length l0) (hc0 : l0.length ≤ c0) (h : line_Right.f k l0 = some r) :
  Calls Try.prog 72 #[.slice A0 l0.length c0] w fun e w' => e = .returned (.bool r) ∧ Below w.heap.size w w' := by
 have hu160 := Try.underlying160
 have HR0 := a0_ hr0
 have HC0 := a0_ hc0
 clear hr0 hc0
 have HB := a0_ (Below.refl w.heap.size w)
 have H : (if (l0.length : Int) < 1 then (line_Right.j0 k l0 true) else (if (l0.length : Int) > 64 then (line_Right.j0 k l0 true) else (if 0 < (l0.length : Int) then (line_Right.j0 k l0 (((rd_T160 l0 0).f1) != 0)) else (none)))) = some r := h
 clear h
 have HC2 := a0_ H
 clear H
 go_enter Try.func72, Try.ntmps72
 go_upto_region 1 with (fail)
 repeat (go_quiet (fail); go_upto_region 1 with (fail))
 go_cut [21] (fun v21 wc => ∃ (kq : Nat) (x21_1 : Bool), v21 = .bool x21_1 ∧ Aside0 (line_Right.j0 kq l0 x21_1 = some r) ∧ Aside0 (kq ≤ k) ∧ Aside0 (Below w.heap.size w wc))
 case first =>
  have H := HC2.out
  clear HC2
  by_cases c3 : (l0.length : Int) < 1
  ·rw [if_pos c3] at H
   have c3b0 : decide ((l0.length : Int) < 1) = true := decide_eq_true c3
   have c3b1 : decide (l0.length < 1) = true := decide_eq_true z2_
   clear c3
   (first | rw [c3b0] | (simp only [i64_w, i32_w]; rw [c3b0]) | skip)
   have H' := a0_ H
   clear H
   go_wp2
   repeat (go_quiet (fail); try go_wp2)
   go_meet
   case rel => exact ⟨_, (true), z9_, H', ⟨z18_⟩, ⟨z6_⟩⟩
  ·rw [if_neg c3] at H
   have c3b0 : decide ((l0.length : Int) < 1) = false := decide_eq_false c3
   have c3b1 : decide (l0.length < 1) = false := decide_eq_false z2_
   clear c3
   (first | rw [c3b0] | (simp only [i64_w, i32_w]; rw [c3b0]) | skip)
   by_cases c4 : (l0.length : Int) > 64
   ·rw [if_pos c4] at H
    have c4b0 : decide (64 < (l0.length : Int)) = true := decide_eq_true c4
    have c4b1 : decide (64 < l0.length) = true := decide_eq_true z2_
    clear c4
    have H' := a0_ H
    clear H
    go_wp2
    repeat (go_quiet (fail); try go_wp2)
    go_meet
    case rel => exact ⟨_, (true), z9_, H', ⟨z18_⟩, ⟨z6_⟩⟩
   ·rw [if_neg c4] at H
    have c4b0 : decide (64 < (l0.length : Int)) = false := decide_eq_false c4
    have c4b1 : decide (64 < l0.length) = false := decide_eq_false z2_
    clear c4
    by_cases c5 : 0 < (l0.length : Int)
    ·rw [if_pos c5] at H
     have c5b0 : decide (0 < (l0.length : Int)) = true := decide_eq_true c5
     have c5b1 : decide (0 < l0.length) = true := decide_eq_true z2_
     clear c5
     have H' := a0_ H
     clear H
     have p104 : 0 ≤ (0 : Int) := z2_
     have q104 : 0 < (l0.length : Int) := of_decide_eq_true z19_
     obtain ⟨ad104, e104, hx104_0, hx104_1⟩ := at_T160 HR0.out 0 p104 q104
     cases e104
     have qi104 : (0 < l0.length) = True := eq_true z2_
     (try rw [show ((0 : Int)).toNat = 0 from rfl] at hx104_0)
     (try rw [show 0 * 2 = 0 from rfl] at hx104_0)
     (try rw [Addr.add_zero'] at hx104_0)
     (try rw [show ((0 : Int)).toNat = 0 from rfl] at hx104_1)
     (try rw [show 0 * 2 = 0 from rfl] at hx104_1)
     (try rw [Addr.add_zero'] at hx104_1)
     replace hx104_0 := (HB.out.cell (World.block_lt_of_cell? w _ hx104_0)).trans hx104_0
     replace hx104_1 := (HB.out.cell (World.block_lt_of_cell? w _ hx104_1)).trans hx104_1
     replace p104 := eq_true p104
     replace q104 := eq_true q104
     go_wp2
     repeat (go_quiet (fail); try go_wp2)
     go_meet
     case rel => exact ⟨_, ((((rd_T160 l0 0).f1) != 0)), z9_, H', ⟨z18_⟩, ⟨z6_⟩⟩
    ·rw [if_neg c5] at H
     exact absurd H (by simp)
 case rest =>
  clear HC2
  obtain ⟨kq, x21_1, rfl, HA, HJ1, HB⟩ := hcut
  cases kq with
  | zero => exact absurd HA.out (by simp [line_Right.j0])
  | succ kj1 =>
   have H := HA.out
   clear HA
   simp only [line_Right.j0] at H
   by_cases c6 : x21_1 = true
   ·subst c6
    rw [if_pos rfl] at H
    obtain rfl := Option.some.inj H
    go_wp2
    repeat (go_quiet (fail); try go_wp2)
    go_ret
    exact qpx11_
   ·replace c6 := Bool.eq_false_iff.mpr c6
    subst c6
    rw [if_neg (show ¬ (false = true) from z17_)] at H
    have H' := a0_ H
    clear H
    go_wp2
    repeat (go_quiet (fail); try go_wp2)
    go_loopg [3, 4, 24] kj1 (fun kq v3 v4 v24 w' => ∃ (x3_2 : Int) (x4_2 : Int) (x24_2 : Int), v3 = .int .i64 x3_2 ∧ v4 = .int .i64 x4_2 ∧ v24 = .int .i64 x24_2 ∧ Aside0 (line_Right.l0 kq x3_2 x4_2 l0 (l0.length : Int) x24_2 = some r) ∧ Aside0 (kq ≤ kj1) ∧ Aside0 (Below w.heap.size w w'))
    case atStart => exact ⟨(0), (0), (0), z9_, z9_, z9_, H', ⟨Nat.le_refl _⟩, ⟨z6_⟩⟩
    case round =>
     clear H'
     obtain ⟨x3_2, x4_2, x24_2, rfl, rfl, rfl, HA, HK2, HB⟩ := hrel
     cases gk with
     | zero => exact absurd HA.out (by simp [line_Right.l0])
     | succ k2 =>
      have H := HA.out
      clear HA
      simp only [line_Right.l0] at H
      by_cases c7 : x24_2 < (l0.length : Int)
      ·rw [if_pos c7] at H
       have c7b0 : decide (x24_2 < (l0.length : Int)) = true := decide_eq_true c7
       clear c7
       by_cases c8 : 0 ≤ x24_2
       ·rw [if_pos c8] at H
        have c8b0 : decide (0 ≤ x24_2) = true := decide_eq_true c8
        clear c8
        by_cases c9 : x24_2 < (l0.length : Int)
        ·rw [if_pos c9] at H
         have c9b0 : decide (x24_2 < (l0.length : Int)) = true := decide_eq_true c9
         clear c9
         by_cases c10 : ((rd_T160 l0 x24_2).f0) ≤ x3_2
         ·rw [if_pos c10] at H
          have c10b0 : decide (((rd_T160 l0 x24_2).f0) ≤ x3_2) = true := decide_eq_true c10
          clear c10
          obtain rfl := Option.some.inj H
          have p105 : 0 ≤ (x24_2 : Int) := of_decide_eq_true z19_
          have q105 : x24_2 < (l0.length : Int) := of_decide_eq_true z19_
          obtain ⟨ad105, e105, hx105_0, hx105_1⟩ := at_T160 HR0.out x24_2 p105 q105
          cases e105
          replace hx105_0 := (HB.out.cell (World.block_lt_of_cell? w _ hx105_0)).trans hx105_0
          replace hx105_1 := (HB.out.cell (World.block_lt_of_cell? w _ hx105_1)).trans hx105_1
          replace p105 := eq_true p105
          replace q105 := eq_true q105
          go_wp2_with (first | ((with_reducible refine gate_dst (N := 6) rfl ?_); (try (refine gate_guard (by rfl) ?_; dsimp only)); refine box_event ?hg (N := 6) ?hd (cs := #[.int .i64 0, .int .i64 0]) (t := 160) ?hr ?_; (case hd => rfl); (case hg => rfl); (case hr => exact z7_); intro gb106 hg w11 hbox hb; have n0_ := a0_ (below_step z6_ hb); have n1_ := a0_ (hbox); have n2_ := a0_ ((z8_ : w.heap.size ≤ gb106)); have n3_ := a0_ ((z8_ : w.heap.size ≤ gb106)); clear HB; have HB := n0_; have BK106 := n1_; have GW106 := n2_; have GE106 := n3_; clear n0_ n1_ n2_ n3_; clear hb hbox hg; have hcz12_0 := blk_cell BK106.out 0; have hcz12_1 := blk_cell BK106.out 1; have hfz12_0 := blk_frozen BK106.out 0; have hfz12_1 := blk_frozen BK106.out 1))
          repeat (go_quiet (first | ((with_reducible refine gate_dst (N := 6) rfl ?_); (try (refine gate_guard (by rfl) ?_; dsimp only)); refine box_event ?hg (N := 6) ?hd (cs := #[.int .i64 0, .int .i64 0]) (t := 160) ?hr ?_; (case hd => rfl); (case hg => rfl); (case hr => exact z7_); intro gb106 hg w11 hbox hb; have n0_ := a0_ (below_step z6_ hb); have n1_ := a0_ (hbox); have n2_ := a0_ ((z8_ : w.heap.size ≤ gb106)); have n3_ := a0_ ((z8_ : w.heap.size ≤ gb106)); clear HB; have HB := n0_; have BK106 := n1_; have GW106 := n2_; have GE106 := n3_; clear n0_ n1_ n2_ n3_; clear hb hbox hg; have hcz12_0 := blk_cell BK106.out 0; have hcz12_1 := blk_cell BK106.out 1; have hfz12_0 := blk_frozen BK106.out 0; have hfz12_1 := blk_frozen BK106.out 1)); try go_wp2_with (first | ((with_reducible refine gate_dst (N := 6) rfl ?_); (try (refine gate_guard (by rfl) ?_; dsimp only)); refine box_event ?hg (N := 6) ?hd (cs := #[.int .i64 0, .int .i64 0]) (t := 160) ?hr ?_; (case hd => rfl); (case hg => rfl); (case hr => exact z7_); intro gb106 hg w11 hbox hb; have n0_ := a0_ (below_step z6_ hb); have n1_ := a0_ (hbox); have n2_ := a0_ ((z8_ : w.heap.size ≤ gb106)); have n3_ := a0_ ((z8_ : w.heap.size ≤ gb106)); clear HB; have HB := n0_; have BK106 := n1_; have GW106 := n2_; have GE106 := n3_; clear n0_ n1_ n2_ n3_; clear hb hbox hg; have hcz12_0 := blk_cell BK106.out 0; have hcz12_1 := blk_cell BK106.out 1; have hfz12_0 := blk_frozen BK106.out 0; have hfz12_1 := blk_frozen BK106.out 1)))
          go_ret
          exact qpx12_
         ·rw [if_neg c10] at H
          have c10b0 : decide (((rd_T160 l0 x24_2).f0) ≤ x3_2) = false := decide_eq_false c10
          clear c10
          by_cases c13 : ((rd_T160 l0 x24_2).f0) > 1099511627776
          ·rw [if_pos c13] at H
           have c13b0 : decide (1099511627776 < ((rd_T160 l0 x24_2).f0)) = true := decide_eq_true c13
           clear c13
           obtain rfl := Option.some.inj H
           have p105 : 0 ≤ (x24_2 : Int) := of_decide_eq_true z19_
           have q105 : x24_2 < (l0.length : Int) := of_decide_eq_true z19_
           obtain ⟨ad105, e105, hx105_0, hx105_1⟩ := at_T160 HR0.out x24_2 p105 q105
           cases e105
           replace hx105_0 := (HB.out.cell (World.block_lt_of_cell? w _ hx105_0)).trans hx105_0
           replace hx105_1 := (HB.out.cell (World.block_lt_of_cell? w _ hx105_1)).trans hx105_1
           replace p105 := eq_true p105
           replace q105 := eq_true q105
           go_wp2_with (first | ((with_reducible refine gate_dst (N := 6) rfl ?_); (try (refine gate_guard (by rfl) ?_; dsimp only)); refine box_event ?hg (N := 6) ?hd (cs := #[.int .i64 0, .int .i64 0]) (t := 160) ?hr ?_; (case hd => rfl); (case hg => rfl); (case hr => exact z7_); intro gb106 hg w14 hbox hb; have n0_ := a0_ (below_step z6_ hb); have n1_ := a0_ (hbox); have n2_ := a0_ ((z8_ : w.heap.size ≤ gb106)); have n3_ := a0_ ((z8_ : w.heap.size ≤ gb106)); clear HB; have HB := n0_; have BK106 := n1_; have GW106 := n2_; have GE106 := n3_; clear n0_ n1_ n2_ n3_; clear hb hbox hg; have hcz15_0 := blk_cell BK106.out 0; have hcz15_1 := blk_cell BK106.out 1; have hfz15_0 := blk_frozen BK106.out 0; have hfz15_1 := blk_frozen BK106.out 1))
           repeat (go_quiet (first | ((with_reducible refine gate_dst (N := 6) rfl ?_); (try (refine gate_guard (by rfl) ?_; dsimp only)); refine box_event ?hg (N := 6) ?hd (cs := #[.int .i64 0, .int .i64 0]) (t := 160) ?hr ?_; (case hd => rfl); (case hg => rfl); (case hr => exact z7_); intro gb106 hg w14 hbox hb; have n0_ := a0_ (below_step z6_ hb); have n1_ := a0_ (hbox); have n2_ := a0_ ((z8_ : w.heap.size ≤ gb106)); have n3_ := a0_ ((z8_ : w.heap.size ≤ gb106)); clear HB; have HB := n0_; have BK106 := n1_; have GW106 := n2_; have GE106 := n3_; clear n0_ n1_ n2_ n3_; clear hb hbox hg; have hcz15_0 := blk_cell BK106.out 0; have hcz15_1 := blk_cell BK106.out 1; have hfz15_0 := blk_frozen BK106.out 0; have hfz15_1 := blk_frozen BK106.out 1)); try go_wp2_with (first | ((with_reducible refine gate_dst (N := 6) rfl ?_); (try (refine gate_guard (by rfl) ?_; dsimp only)); refine box_event ?hg (N := 6) ?hd (cs := #[.int .i64 0, .int .i64 0]) (t := 160) ?hr ?_; (case hd => rfl); (case hg => rfl); (case hr => exact z7_); intro gb106 hg w14 hbox hb; have n0_ := a0_ (below_step z6_ hb); have n1_ := a0_ (hbox); have n2_ := a0_ ((z8_ : w.heap.size ≤ gb106)); have n3_ := a0_ ((z8_ : w.heap.size ≤ gb106)); clear HB; have HB := n0_; have BK106 := n1_; have GW106 := n2_; have GE106 := n3_; clear n0_ n1_ n2_ n3_; clear hb hbox hg; have hcz15_0 := blk_cell BK106.out 0; have hcz15_1 := blk_cell BK106.out 1; have hfz15_0 := blk_frozen BK106.out 0; have hfz15_1 := blk_frozen BK106.out 1)))
           go_ret
           exact qpx12_
          ·rw [if_neg c13] at H
           have c13b0 : decide (1099511627776 < ((rd_T160 l0 x24_2).f0)) = false := decide_eq_false c13
           clear c13
           by_cases c16 : ((rd_T160 l0 x24_2).f1) < x4_2
           ·rw [if_pos c16] at H
            have c16b0 : decide (((rd_T160 l0 x24_2).f1) < x4_2) = true := decide_eq_true c16
            clear c16
            obtain rfl := Option.some.inj H
            have p105 : 0 ≤ (x24_2 : Int) := of_decide_eq_true z19_
            have q105 : x24_2 < (l0.length : Int) := of_decide_eq_true z19_
            obtain ⟨ad105, e105, hx105_0, hx105_1⟩ := at_T160 HR0.out x24_2 p105 q105
            cases e105
            replace hx105_0 := (HB.out.cell (World.block_lt_of_cell? w _ hx105_0)).trans hx105_0
            replace hx105_1 := (HB.out.cell (World.block_lt_of_cell? w _ hx105_1)).trans hx105_1
            replace p105 := eq_true p105
            replace q105 := eq_true q105
            go_wp2_with (first | ((with_reducible refine gate_dst (N := 6) rfl ?_); (try (refine gate_guard (by rfl) ?_; dsimp only)); refine box_event ?hg (N := 6) ?hd (cs := #[.int .i64 0, .int .i64 0]) (t := 160) ?hr ?_; (case hd => rfl); (case hg => rfl); (case hr => exact z7_); intro gb106 hg w17 hbox hb; have n0_ := a0_ (below_step z6_ hb); have n1_ := a0_ (hbox); have n2_ := a0_ ((z8_ : w.heap.size ≤ gb106)); have n3_ := a0_ ((z8_ : w.heap.size ≤ gb106)); clear HB; have HB := n0_; have BK106 := n1_; have GW106 := n2_; have GE106 := n3_; clear n0_ n1_ n2_ n3_; clear hb hbox hg; have hcz18_0 := blk_cell BK106.out 0; have hcz18_1 := blk_cell BK106.out 1; have hfz18_0 := blk_frozen BK106.out 0; have hfz18_1 := blk_frozen BK106.out 1))
            repeat (go_quiet (first | ((with_reducible refine gate_dst (N := 6) rfl ?_); (try (refine gate_guard (by rfl) ?_; dsimp only)); refine box_event ?hg (N := 6) ?hd (cs := #[.int .i64 0, .int .i64 0]) (t := 160) ?hr ?_; (case hd => rfl); (case hg => rfl); (case hr => exact z7_); intro gb106 hg w17 hbox hb; have n0_ := a0_ (below_step z6_ hb); have n1_ := a0_ (hbox); have n2_ := a0_ ((z8_ : w.heap.size ≤ gb106)); have n3_ := a0_ ((z8_ : w.heap.size ≤ gb106)); clear HB; have HB := n0_; have BK106 := n1_; have GW106 := n2_; have GE106 := n3_; clear n0_ n1_ n2_ n3_; clear hb hbox hg; have hcz18_0 := blk_cell BK106.out 0; have hcz18_1 := blk_cell BK106.out 1; have hfz18_0 := blk_frozen BK106.out 0; have hfz18_1 := blk_frozen BK106.out 1)); try go_wp2_with (first | ((with_reducible refine gate_dst (N := 6) rfl ?_); (try (refine gate_guard (by rfl) ?_; dsimp only)); refine box_event ?hg (N := 6) ?hd (cs := #[.int .i64 0, .int .i64 0]) (t := 160) ?hr ?_; (case hd => rfl); (case hg => rfl); (case hr => exact z7_); intro gb106 hg w17 hbox hb; have n0_ := a0_ (below_step z6_ hb); have n1_ := a0_ (hbox); have n2_ := a0_ ((z8_ : w.heap.size ≤ gb106)); have n3_ := a0_ ((z8_ : w.heap.size ≤ gb106)); clear HB; have HB := n0_; have BK106 := n1_; have GW106 := n2_; have GE106 := n3_; clear n0_ n1_ n2_ n3_; clear hb hbox hg; have hcz18_0 := blk_cell BK106.out 0; have hcz18_1 := blk_cell BK106.out 1; have hfz18_0 := blk_frozen BK106.out 0; have hfz18_1 := blk_frozen BK106.out 1)))
            go_ret
            exact qpx12_
           ·rw [if_neg c16] at H
            have c16b0 : decide (((rd_T160 l0 x24_2).f1) < x4_2) = false := decide_eq_false c16
            clear c16
            by_cases c19 : ((rd_T160 l0 x24_2).f1) > 1099511627776
            ·rw [if_pos c19] at H
             have c19b0 : decide (1099511627776 < ((rd_T160 l0 x24_2).f1)) = true := decide_eq_true c19
             clear c19
             obtain rfl := Option.some.inj H
             have p105 : 0 ≤ (x24_2 : Int) := of_decide_eq_true z19_
             have q105 : x24_2 < (l0.length : Int) := of_decide_eq_true z19_
             obtain ⟨ad105, e105, hx105_0, hx105_1⟩ := at_T160 HR0.out x24_2 p105 q105
             cases e105
             replace hx105_0 := (HB.out.cell (World.block_lt_of_cell? w _ hx105_0)).trans hx105_0
             replace hx105_1 := (HB.out.cell (World.block_lt_of_cell? w _ hx105_1)).trans hx105_1
             replace p105 := eq_true p105
             replace q105 := eq_true q105
             go_wp2_with (first | ((with_reducible refine gate_dst (N := 6) rfl ?_); (try (refine gate_guard (by rfl) ?_; dsimp only)); refine box_event ?hg (N := 6) ?hd (cs := #[.int .i64 0, .int .i64 0]) (t := 160) ?hr ?_; (case hd => rfl); (case hg => rfl); (case hr => exact z7_); intro gb106 hg w20 hbox hb; have n0_ := a0_ (below_step z6_ hb); have n1_ := a0_ (hbox); have n2_ := a0_ ((z8_ : w.heap.size ≤ gb106)); have n3_ := a0_ ((z8_ : w.heap.size ≤ gb106)); clear HB; have HB := n0_; have BK106 := n1_; have GW106 := n2_; have GE106 := n3_; clear n0_ n1_ n2_ n3_; clear hb hbox hg; have hcz21_0 := blk_cell BK106.out 0; have hcz21_1 := blk_cell BK106.out 1; have hfz21_0 := blk_frozen BK106.out 0; have hfz21_1 := blk_frozen BK106.out 1))
             repeat (go_quiet (first | ((with_reducible refine gate_dst (N := 6) rfl ?_); (try (refine gate_guard (by rfl) ?_; dsimp only)); refine box_event ?hg (N := 6) ?hd (cs := #[.int .i64 0, .int .i64 0]) (t := 160) ?hr ?_; (case hd => rfl); (case hg => rfl); (case hr => exact z7_); intro gb106 hg w20 hbox hb; have n0_ := a0_ (below_step z6_ hb); have n1_ := a0_ (hbox); have n2_ := a0_ ((z8_ : w.heap.size ≤ gb106)); have n3_ := a0_ ((z8_ : w.heap.size ≤ gb106)); clear HB; have HB := n0_; have BK106 := n1_; have GW106 := n2_; have GE106 := n3_; clear n0_ n1_ n2_ n3_; clear hb hbox hg; have hcz21_0 := blk_cell BK106.out 0; have hcz21_1 := blk_cell BK106.out 1; have hfz21_0 := blk_frozen BK106.out 0; have hfz21_1 := blk_frozen BK106.out 1)); try go_wp2_with (first | ((with_reducible refine gate_dst (N := 6) rfl ?_); (try (refine gate_guard (by rfl) ?_; dsimp only)); refine box_event ?hg (N := 6) ?hd (cs := #[.int .i64 0, .int .i64 0]) (t := 160) ?hr ?_; (case hd => rfl); (case hg => rfl); (case hr => exact z7_); intro gb106 hg w20 hbox hb; have n0_ := a0_ (below_step z6_ hb); have n1_ := a0_ (hbox); have n2_ := a0_ ((z8_ : w.heap.size ≤ gb106)); have n3_ := a0_ ((z8_ : w.heap.size ≤ gb106)); clear HB; have HB := n0_; have BK106 := n1_; have GW106 := n2_; have GE106 := n3_; clear n0_ n1_ n2_ n3_; clear hb hbox hg; have hcz21_0 := blk_cell BK106.out 0; have hcz21_1 := blk_cell BK106.out 1; have hfz21_0 := blk_frozen BK106.out 0; have hfz21_1 := blk_frozen BK106.out 1)))
             go_ret
             exact qpx12_
            ·rw [if_neg c19] at H
             have c19b0 : decide (1099511627776 < ((rd_T160 l0 x24_2).f1)) = false := decide_eq_false c19
             clear c19
             have H' := a0_ H
             clear H
             have p105 : 0 ≤ (x24_2 : Int) := of_decide_eq_true z19_
             have q105 : x24_2 < (l0.length : Int) := of_decide_eq_true z19_
             obtain ⟨ad105, e105, hx105_0, hx105_1⟩ := at_T160 HR0.out x24_2 p105 q105
             cases e105
             replace hx105_0 := (HB.out.cell (World.block_lt_of_cell? w _ hx105_0)).trans hx105_0
             replace hx105_1 := (HB.out.cell (World.block_lt_of_cell? w _ hx105_1)).trans hx105_1
             replace p105 := eq_true p105
             replace q105 := eq_true q105
             go_wp2_with (first | ((with_reducible refine gate_dst (N := 6) rfl ?_); (try (refine gate_guard (by rfl) ?_; dsimp only)); refine box_event ?hg (N := 6) ?hd (cs := #[.int .i64 0, .int .i64 0]) (t := 160) ?hr ?_; (case hd => rfl); (case hg => rfl); (case hr => exact z7_); intro gb106 hg w22 hbox hb; have n0_ := a0_ (below_step z6_ hb); have n1_ := a0_ (hbox); have n2_ := a0_ ((z8_ : w.heap.size ≤ gb106)); have n3_ := a0_ ((z8_ : w.heap.size ≤ gb106)); clear HB; have HB := n0_; have BK106 := n1_; have GW106 := n2_; have GE106 := n3_; clear n0_ n1_ n2_ n3_; clear hb hbox hg; have hcz23_0 := blk_cell BK106.out 0; have hcz23_1 := blk_cell BK106.out 1; have hfz23_0 := blk_frozen BK106.out 0; have hfz23_1 := blk_frozen BK106.out 1))
             repeat (go_quiet (first | ((with_reducible refine gate_dst (N := 6) rfl ?_); (try (refine gate_guard (by rfl) ?_; dsimp only)); refine box_event ?hg (N := 6) ?hd (cs := #[.int .i64 0, .int .i64 0]) (t := 160) ?hr ?_; (case hd => rfl); (case hg => rfl); (case hr => exact z7_); intro gb106 hg w22 hbox hb; have n0_ := a0_ (below_step z6_ hb); have n1_ := a0_ (hbox); have n2_ := a0_ ((z8_ : w.heap.size ≤ gb106)); have n3_ := a0_ ((z8_ : w.heap.size ≤ gb106)); clear HB; have HB := n0_; have BK106 := n1_; have GW106 := n2_; have GE106 := n3_; clear n0_ n1_ n2_ n3_; clear hb hbox hg; have hcz23_0 := blk_cell BK106.out 0; have hcz23_1 := blk_cell BK106.out 1; have hfz23_0 := blk_frozen BK106.out 0; have hfz23_1 := blk_frozen BK106.out 1)); try go_wp2_with (first | ((with_reducible refine gate_dst (N := 6) rfl ?_); (try (refine gate_guard (by rfl) ?_; dsimp only)); refine box_event ?hg (N := 6) ?hd (cs := #[.int .i64 0, .int .i64 0]) (t := 160) ?hr ?_; (case hd => rfl); (case hg => rfl); (case hr => exact z7_); intro gb106 hg w22 hbox hb; have n0_ := a0_ (below_step z6_ hb); have n1_ := a0_ (hbox); have n2_ := a0_ ((z8_ : w.heap.size ≤ gb106)); have n3_ := a0_ ((z8_ : w.heap.size ≤ gb106)); clear HB; have HB := n0_; have BK106 := n1_; have GW106 := n2_; have GE106 := n3_; clear n0_ n1_ n2_ n3_; clear hb hbox hg; have hcz23_0 := blk_cell BK106.out 0; have hcz23_1 := blk_cell BK106.out 1; have hfz23_0 := blk_frozen BK106.out 0; have hfz23_1 := blk_frozen BK106.out 1)))
             go_roundg k2
             case measure => have := HJ1.out; have := HK2.out; omega
             case rel => exact ⟨((rd_T160 l0 x24_2).f0), ((rd_T160 l0 x24_2).f1), (wrap64 (x24_2 + 1)), z9_, z9_, z9_, H', ⟨z20_⟩, ⟨z5_⟩⟩
        ·rw [if_neg c9] at H
         exact absurd H (by simp)
       ·rw [if_neg c8] at H
        exact absurd H (by simp)
      ·rw [if_neg c7] at H
       have c7b0 : decide (x24_2 < (l0.length : Int)) = false := decide_eq_false c7
       clear c7
       obtain rfl := Option.some.inj H
       go_wp2
       repeat (go_quiet (fail); try go_wp2)
       go_ret
       exact qpx11_
def dirty_Right.l0 : Nat → Int → List (S166) → Int → Int → Option (Bool)
 | 0, _, _, _, _ => none
 | k + 1, x3, x6, x7, x8 => if x8 < x7 then (if 0 ≤ x8 then (if x8 < (x6.length : Int) then (if ((rd_T166 x6 x8).f0) ≤ x3 then (some false) else (if ((rd_T166 x6 x8).f0) > 255 then (some false) else (if ((rd_T166 x6 x8).f1) = 0 then (some false) else (if ((rd_T166 x6 x8).f1) ≥ 4294967296 then (some false) else (dirty_Right.l0 k ((rd_T166 x6 x8).f0) x6 x7 (wrap64 (x8 + 1))))))) else (none)) else (none)) else (some true)
def dirty_Right.f (k : Nat) (l0 : List (S166)) : Option (Bool) := dirty_Right.l0 k 0 l0 (l0.length : Int) 0
set_option maxHeartbeats 8000000 in
set_option maxRecDepth 100000 in
theorem dirty_Right.calls (k : Nat) (A0 : Option Addr) (c0 : Nat) (l0 : List (S166)) (r : Bool) (w : World) (hr0 : Kd.C k166 w A0 l0.length l0) (hc0 : l0.length ≤ c0) (h : dirty_Right.f k l0 = some r) :
  Calls Try.prog 74 #[.slice A0 l0.length c0] w fun e w' => e = .returned (.bool r) ∧ Below w.heap.size w w' := by
 have hu166 := Try.underlying166
 have HR0 := a0_ hr0
 have HC0 := a0_ hc0
 clear hr0 hc0
 have HB := a0_ (Below.refl w.heap.size w)
 have H : (dirty_Right.l0 k 0 l0 (l0.length : Int) 0) = some r := h
 clear h
 have H' := a0_ H
 clear H
 go_enter Try.func74, Try.ntmps74
 go_wp2
 go_loopg [3, 8] k (fun kq v3 v8 w' => ∃ (x3_1 : Int) (x8_1 : Int), v3 = .int .i64 x3_1 ∧ v8 = .int .i64 x8_1 ∧ Aside0 (dirty_Right.l0 kq x3_1 l0 (l0.length : Int) x8_1 = some r) ∧ Aside0 (kq ≤ k) ∧ Aside0 (Below w.heap.size w w'))
 case atStart => exact ⟨(0), (0), z9_, z9_, H', ⟨Nat.le_refl _⟩, ⟨z6_⟩⟩
 case round =>
  clear H'
  obtain ⟨x3_1, x8_1, rfl, rfl, HA, HK1, HB⟩ := hrel
  cases gk with
  | zero => exact absurd HA.out (by simp [dirty_Right.l0])
  | succ k1 =>
   have H := HA.out
   clear HA
   simp only [dirty_Right.l0] at H
   by_cases c2 : x8_1 < (l0.length : Int)
   ·rw [if_pos c2] at H
    have c2b0 : decide (x8_1 < (l0.length : Int)) = true := decide_eq_true c2
    clear c2
    by_cases c3 : 0 ≤ x8_1
    ·rw [if_pos c3] at H
     have c3b0 : decide (0 ≤ x8_1) = true := decide_eq_true c3
     clear c3
     by_cases c4 : x8_1 < (l0.length : Int)
     ·rw [if_pos c4] at H
      have c4b0 : decide (x8_1 < (l0.length : Int)) = true := decide_eq_true c4
      clear c4
      by_cases c5 : ((rd_T166 l0 x8_1).f0) ≤ x3_1
      ·rw [if_pos c5] at H
       have c5b0 : decide (((rd_T166 l0 x8_1).f0) ≤ x3_1) = true := decide_eq_true c5
       clear c5
       obtain rfl := Option.some.inj H
       have p107 : 0 ≤ (x8_1 : Int) := of_decide_eq_true z19_
       have q107 : x8_1 < (l0.length : Int) := of_decide_eq_true z19_
       obtain ⟨ad107, e107, hx107_0, hx107_1⟩ := at_T166 HR0.out x8_1 p107 q107
       cases e107
       replace hx107_0 := (HB.out.cell (World.block_lt_of_cell? w _ hx107_0)).trans hx107_0
       replace hx107_1 := (HB.out.cell (World.block_lt_of_cell? w _ hx107_1)).trans hx107_1
       replace p107 := eq_true p107
       replace q107 := eq_true q107
       go_wp2_with (first | ((with_reducible refine gate_dst (N := 5) rfl ?_); refine box_event ?hg (N := 5) ?hd (cs := #[.int .i64 0, .int .u64 0]) (t := 166) ?hr ?_; (case hd => rfl); (case hg => rfl); (case hr => exact z7_); intro gb108 hg w6 hbox hb; have n0_ := a0_ (below_step z6_ hb); have n1_ := a0_ (hbox); have n2_ := a0_ ((z8_ : w.heap.size ≤ gb108)); have n3_ := a0_ ((z8_ : w.heap.size ≤ gb108)); clear HB; have HB := n0_; have BK108 := n1_; have GW108 := n2_; have GE108 := n3_; clear n0_ n1_ n2_ n3_; clear hb hbox hg; have hcz7_0 := blk_cell BK108.out 0; have hcz7_1 := blk_cell BK108.out 1; have hfz7_0 := blk_frozen BK108.out 0; have hfz7_1 := blk_frozen BK108.out 1))
       go_ret
       exact qpx13_
      ·rw [if_neg c5] at H
       have c5b0 : decide (((rd_T166 l0 x8_1).f0) ≤ x3_1) = false := decide_eq_false c5
       clear c5
       by_cases c8 : ((rd_T166 l0 x8_1).f0) > 255
       ·rw [if_pos c8] at H
        have c8b0 : decide (255 < ((rd_T166 l0 x8_1).f0)) = true := decide_eq_true c8
        clear c8
        obtain rfl := Option.some.inj H
        have p107 : 0 ≤ (x8_1 : Int) := of_decide_eq_true z19_
        have q107 : x8_1 < (l0.length : Int) := of_decide_eq_true z19_
        obtain ⟨ad107, e107, hx107_0, hx107_1⟩ := at_T166 HR0.out x8_1 p107 q107
        cases e107
        replace hx107_0 := (HB.out.cell (World.block_lt_of_cell? w _ hx107_0)).trans hx107_0
        replace hx107_1 := (HB.out.cell (World.block_lt_of_cell? w _ hx107_1)).trans hx107_1
        replace p107 := eq_true p107
        replace q107 := eq_true q107
        go_wp2_with (first | ((with_reducible refine gate_dst (N := 5) rfl ?_); refine box_event ?hg (N := 5) ?hd (cs := #[.int .i64 0, .int .u64 0]) (t := 166) ?hr ?_; (case hd => rfl); (case hg => rfl); (case hr => exact z7_); intro gb108 hg w9 hbox hb; have n0_ := a0_ (below_step z6_ hb); have n1_ := a0_ (hbox); have n2_ := a0_ ((z8_ : w.heap.size ≤ gb108)); have n3_ := a0_ ((z8_ : w.heap.size ≤ gb108)); clear HB; have HB := n0_; have BK108 := n1_; have GW108 := n2_; have GE108 := n3_; clear n0_ n1_ n2_ n3_; clear hb hbox hg; have hcz10_0 := blk_cell BK108.out 0; have hcz10_1 := blk_cell BK108.out 1; have hfz10_0 := blk_frozen BK108.out 0; have hfz10_1 := blk_frozen BK108.out 1))
        go_ret
        exact qpx13_
       ·rw [if_neg c8] at H
        have c8b0 : decide (255 < ((rd_T166 l0 x8_1).f0)) = false := decide_eq_false c8
        clear c8
        by_cases c11 : ((rd_T166 l0 x8_1).f1) = 0
        ·rw [if_pos c11] at H
         have c11b0 : (((rd_T166 l0 x8_1).f1) == 0) = true := beq_iff_eq.mpr c11
         have c11b1 : (((rd_T166 l0 x8_1).f1) != 0) = false := bne_eq_false_iff_eq.mpr c11
         clear c11
         obtain rfl := Option.some.inj H
         have p107 : 0 ≤ (x8_1 : Int) := of_decide_eq_true z19_
         have q107 : x8_1 < (l0.length : Int) := of_decide_eq_true z19_
         obtain ⟨ad107, e107, hx107_0, hx107_1⟩ := at_T166 HR0.out x8_1 p107 q107
         cases e107
         replace hx107_0 := (HB.out.cell (World.block_lt_of_cell? w _ hx107_0)).trans hx107_0
         replace hx107_1 := (HB.out.cell (World.block_lt_of_cell? w _ hx107_1)).trans hx107_1
         replace p107 := eq_true p107
         replace q107 := eq_true q107
         go_wp2_with (first | ((with_reducible refine gate_dst (N := 5) rfl ?_); refine box_event ?hg (N := 5) ?hd (cs := #[.int .i64 0, .int .u64 0]) (t := 166) ?hr ?_; (case hd => rfl); (case hg => rfl); (case hr => exact z7_); intro gb108 hg w12 hbox hb; have n0_ := a0_ (below_step z6_ hb); have n1_ := a0_ (hbox); have n2_ := a0_ ((z8_ : w.heap.size ≤ gb108)); have n3_ := a0_ ((z8_ : w.heap.size ≤ gb108)); clear HB; have HB := n0_; have BK108 := n1_; have GW108 := n2_; have GE108 := n3_; clear n0_ n1_ n2_ n3_; clear hb hbox hg; have hcz13_0 := blk_cell BK108.out 0; have hcz13_1 := blk_cell BK108.out 1; have hfz13_0 := blk_frozen BK108.out 0; have hfz13_1 := blk_frozen BK108.out 1))
         go_ret
         exact qpx13_
        ·rw [if_neg c11] at H
         have c11b0 : (((rd_T166 l0 x8_1).f1) == 0) = false := beq_eq_false_iff_ne.mpr c11
         have c11b1 : (((rd_T166 l0 x8_1).f1) != 0) = true := bne_iff_ne.mpr c11
         by_cases c14 : ((rd_T166 l0 x8_1).f1) ≥ 4294967296
         ·rw [if_pos c14] at H
          have c14b0 : decide (4294967296 ≤ ((rd_T166 l0 x8_1).f1)) = true := decide_eq_true c14
          clear c14
          obtain rfl := Option.some.inj H
          have p107 : 0 ≤ (x8_1 : Int) := of_decide_eq_true z19_
          have q107 : x8_1 < (l0.length : Int) := of_decide_eq_true z19_
          obtain ⟨ad107, e107, hx107_0, hx107_1⟩ := at_T166 HR0.out x8_1 p107 q107
          cases e107
          replace hx107_0 := (HB.out.cell (World.block_lt_of_cell? w _ hx107_0)).trans hx107_0
          replace hx107_1 := (HB.out.cell (World.block_lt_of_cell? w _ hx107_1)).trans hx107_1
          replace p107 := eq_true p107
          replace q107 := eq_true q107
          go_wp2_with (first | ((with_reducible refine gate_dst (N := 5) rfl ?_); refine box_event ?hg (N := 5) ?hd (cs := #[.int .i64 0, .int .u64 0]) (t := 166) ?hr ?_; (case hd => rfl); (case hg => rfl); (case hr => exact z7_); intro gb108 hg w15 hbox hb; have n0_ := a0_ (below_step z6_ hb); have n1_ := a0_ (hbox); have n2_ := a0_ ((z8_ : w.heap.size ≤ gb108)); have n3_ := a0_ ((z8_ : w.heap.size ≤ gb108)); clear HB; have HB := n0_; have BK108 := n1_; have GW108 := n2_; have GE108 := n3_; clear n0_ n1_ n2_ n3_; clear hb hbox hg; have hcz16_0 := blk_cell BK108.out 0; have hcz16_1 := blk_cell BK108.out 1; have hfz16_0 := blk_frozen BK108.out 0; have hfz16_1 := blk_frozen BK108.out 1))
          go_ret
          exact qpx13_
         ·rw [if_neg c14] at H
          have c14b0 : decide (4294967296 ≤ ((rd_T166 l0 x8_1).f1)) = false := decide_eq_false c14
          clear c14
          have H' := a0_ H
          clear H
          have p107 : 0 ≤ (x8_1 : Int) := of_decide_eq_true z19_
          have q107 : x8_1 < (l0.length : Int) := of_decide_eq_true z19_
          obtain ⟨ad107, e107, hx107_0, hx107_1⟩ := at_T166 HR0.out x8_1 p107 q107
          cases e107
          replace hx107_0 := (HB.out.cell (World.block_lt_of_cell? w _ hx107_0)).trans hx107_0
          replace hx107_1 := (HB.out.cell (World.block_lt_of_cell? w _ hx107_1)).trans hx107_1
          replace p107 := eq_true p107
          replace q107 := eq_true q107
          go_wp2_with (first | ((with_reducible refine gate_dst (N := 5) rfl ?_); refine box_event ?hg (N := 5) ?hd (cs := #[.int .i64 0, .int .u64 0]) (t := 166) ?hr ?_; (case hd => rfl); (case hg => rfl); (case hr => exact z7_); intro gb108 hg w17 hbox hb; have n0_ := a0_ (below_step z6_ hb); have n1_ := a0_ (hbox); have n2_ := a0_ ((z8_ : w.heap.size ≤ gb108)); have n3_ := a0_ ((z8_ : w.heap.size ≤ gb108)); clear HB; have HB := n0_; have BK108 := n1_; have GW108 := n2_; have GE108 := n3_; clear n0_ n1_ n2_ n3_; clear hb hbox hg; have hcz18_0 := blk_cell BK108.out 0; have hcz18_1 := blk_cell BK108.out 1; have hfz18_0 := blk_frozen BK108.out 0; have hfz18_1 := blk_frozen BK108.out 1))
          go_roundg k1
          case measure => have := HK1.out; omega
          case rel => exact ⟨((rd_T166 l0 x8_1).f0), (wrap64 (x8_1 + 1)), z9_, z9_, H', ⟨z21_⟩, ⟨z4_⟩⟩
     ·rw [if_neg c4] at H
      exact absurd H (by simp)
    ·rw [if_neg c3] at H
     exact absurd H (by simp)
   ·rw [if_neg c2] at H
    have c2b0 : decide (x8_1 < (l0.length : Int)) = false := decide_eq_false c2
    clear c2
    obtain rfl := Option.some.inj H
    go_wp2
    go_ret
    exact qpx11_
def cmp_Or_int.l0 : Nat → Int → List Int → Int → Int → Option (Int)
 | 0, _, _, _, _ => none
 | k + 1, x3, x6, x7, x8 => if x8 < x7 then (if 0 ≤ x8 then (if x8 < (x6.length : Int) then (if (rd x6 x8) = x3 then (cmp_Or_int.l0 k x3 x6 x7 (wrap64 (x8 + 1))) else (some (rd x6 x8))) else (none)) else (none)) else (some x3)
def cmp_Or_int.f (k : Nat) (l0 : List Int) : Option (Int) := cmp_Or_int.l0 k 0 l0 (l0.length : Int) 0
set_option maxHeartbeats 8000000 in
set_option maxRecDepth 100000 in
theorem cmp_Or_int.calls (k : Nat) (A0 : Option Addr) (c0 : Nat) (l0 : List Int) (r : Int) (w : World) (hr0 : Kd.C (Kd.int .i64) w A0 l0.length l0) (hc0 : l0.length ≤ c0) (h : cmp_Or_int.f k l0 = some r) :
  Calls Try.prog 109 #[.slice A0 l0.length c0] w fun e w' => e = .returned (.int .i64 r) ∧ Drawn0 w w' := by
 have HR0 := a0_ hr0
 have HC0 := a0_ hc0
 clear hr0 hc0
 have H : (cmp_Or_int.l0 k 0 l0 (l0.length : Int) 0) = some r := h
 clear h
 have H' := a0_ H
 clear H
 go_enter Try.func109, Try.ntmps109
 go_wp2
 go_loopg [8] k (fun kq v8 w' => ∃ (x8_1 : Int), v8 = .int .i64 x8_1 ∧ Aside0 (cmp_Or_int.l0 kq 0 l0 (l0.length : Int) x8_1 = some r) ∧ Aside0 (kq ≤ k) ∧ Drawn0 w w')
 case atStart => exact ⟨(0), z9_, H', ⟨Nat.le_refl _⟩, z10_⟩
 case round =>
  clear H'
  obtain ⟨x8_1, rfl, HA, HK1, ⟨m1, rfl⟩⟩ := hrel
  cases gk with
  | zero => exact absurd HA.out (by simp [cmp_Or_int.l0])
  | succ k1 =>
   have H := HA.out
   clear HA
   simp only [cmp_Or_int.l0] at H
   by_cases c2 : x8_1 < (l0.length : Int)
   ·rw [if_pos c2] at H
    have c2b0 : decide (x8_1 < (l0.length : Int)) = true := decide_eq_true c2
    clear c2
    by_cases c3 : 0 ≤ x8_1
    ·rw [if_pos c3] at H
     have c3b0 : decide (0 ≤ x8_1) = true := decide_eq_true c3
     clear c3
     by_cases c4 : x8_1 < (l0.length : Int)
     ·rw [if_pos c4] at H
      have c4b0 : decide (x8_1 < (l0.length : Int)) = true := decide_eq_true c4
      clear c4
      by_cases c5 : (rd l0 x8_1) = 0
      ·rw [if_pos c5] at H
       have c5b0 : ((rd l0 x8_1) == 0) = true := beq_iff_eq.mpr c5
       have c5b1 : ((rd l0 x8_1) != 0) = false := bne_eq_false_iff_eq.mpr c5
       clear c5
       have H' := a0_ H
       clear H
       have p109 : 0 ≤ (x8_1 : Int) := of_decide_eq_true z19_
       have q109 : x8_1 < (l0.length : Int) := of_decide_eq_true z19_
       obtain ⟨ad109, e109, hx109_0⟩ := Kd.at_int HR0.out x8_1 p109 q109
       cases e109
       replace p109 := eq_true p109
       replace q109 := eq_true q109
       go_wp2
       go_roundg k1
       case measure => have := HK1.out; omega
       case rel => exact ⟨(wrap64 (x8_1 + 1)), z9_, H', ⟨z21_⟩, z10_⟩
      ·rw [if_neg c5] at H
       have c5b0 : ((rd l0 x8_1) == 0) = false := beq_eq_false_iff_ne.mpr c5
       have c5b1 : ((rd l0 x8_1) != 0) = true := bne_iff_ne.mpr c5
       obtain rfl := Option.some.inj H
       have p109 : 0 ≤ (x8_1 : Int) := of_decide_eq_true z19_
       have q109 : x8_1 < (l0.length : Int) := of_decide_eq_true z19_
       obtain ⟨ad109, e109, hx109_0⟩ := Kd.at_int HR0.out x8_1 p109 q109
       cases e109
       replace p109 := eq_true p109
       replace q109 := eq_true q109
       go_wp2
       go_ret
       exact ⟨z9_, z10_⟩
     ·rw [if_neg c4] at H
      exact absurd H (by simp)
    ·rw [if_neg c3] at H
     exact absurd H (by simp)
   ·rw [if_neg c2] at H
    have c2b0 : decide (x8_1 < (l0.length : Int)) = false := decide_eq_false c2
    clear c2
    obtain rfl := Option.some.inj H
    go_wp2
    go_ret
    exact ⟨z9_, z10_⟩
def cmp_isNaN_int.f (a0 : Int) : Option (Bool) := some (a0 != a0)
set_option maxHeartbeats 8000000 in
set_option maxRecDepth 100000 in
theorem cmp_isNaN_int.calls (a0 : Int) (r : Bool) (w : World) (h : cmp_isNaN_int.f a0 = some r) :
  Calls Try.prog 117 #[.int .i64 a0] w fun e w' => e = .returned (.bool r) ∧ Drawn0 w w' := by
 have H : (some (a0 != a0)) = some r := h
 clear h
 obtain rfl := Option.some.inj H
 go_enter Try.func117, Try.ntmps117
 go_wp2
 go_ret
 exact ⟨z9_, z10_⟩
end Go.Proofs.Ytecfndblgefhdaa.P
