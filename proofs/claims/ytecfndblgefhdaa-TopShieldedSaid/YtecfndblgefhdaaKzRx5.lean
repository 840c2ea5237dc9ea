import Derived.Test.YtecfndblgefhdaaKzRx4
namespace Go.Proofs.Ytecfndblgefhdaa.R
open Go.RowKit Go.Proofs.YtecfndblgefhdaaW.PrintWords Go.Proofs.YtecfndblgefhdaaW.PrintLast Go.Proofs.YtecfndblgefhdaaW.PrintMore
attribute [local go_sem] max2_int min2_int max_two min_two max_three min_three max_four min_four
set_option linter.unusedVariables false
set_option linter.unusedSimpArgs false
theorem qrx50_ {p : Prop} (h : p := by exact ⟨z2_, z66_⟩) : p := h
mutual
def lag_Judge.j0 : Nat → List (S120) → Bool → Int → Int → Bool → List (S51) → List (S120) → Int → Int → Option (Int)
 | 0, _, _, _, _, _, _, _, _, _ => none
 | k + 1, x2, x16, x154000, x154001, x154002, x155000, x155001, x155002, x155003 => if x16 = true then (some 0) else ((queue_Load.f k x155000 x155001 x155002 x155003).bind fun bt157 => (if bt157.1 < x154000 then ((fold_Bytes.f k x2).bind fun t159 => (lag_Judge.j1 k (decide ((wrap64 (bt157.2 + t159)) ≤ x154001)) x154000 x154001 x154002)) else (lag_Judge.j1 k false x154000 x154001 x154002)))
def lag_Judge.j1 : Nat → Bool → Int → Int → Bool → Option (Int)
 | 0, _, _, _, _ => none
 | k + 1, x22, x154000, x154001, x154002 => if x22 = true then (some 1) else (if x154002 = true then (some 2) else (some 3))
end
def lag_Judge.f (k : Nat) (a0_0 : Int) (a0_1 : Int) (a0_2 : Bool) (l1_0 : List (S51)) (l1_1 : List (S120)) (a1_2 : Int) (a1_3 : Int) (l2 : List (S120)) : Option (Int) := (lag_Right.f a0_0 a0_1 a0_2).bind fun t155 => (if t155 = true then ((queue_Right.f k l1_0 l1_1 a1_2 a1_3).bind fun t156 => (lag_Judge.j0 k l2 (!t156) a0_0 a0_1 a0_2 l1_0 l1_1 a1_2 a1_3)) else (lag_Judge.j0 k l2 true a0_0 a0_1 a0_2 l1_0 l1_1 a1_2 a1_3))
def lag_Judge.T4 : Bool × List (List Nat × List Nat) := (true, [([], []), ([], []), ([1], [1]), ([0, 2], [0, 2]), ([3], [3]), ([4], [4]), ([4], [4]), ([6, 4, 4], [4, 6]), ([5, 7, 4], [4, 5, 7]), ([4], [4]), ([9, 4], [4, 9]), ([8, 10, 4], [4, 8, 10]), ([4, 11], [4, 11]), ([12, 7], [12])])
def lag_Judge.B4 : List Nat := [0, 0, 2, 7, 15, 31, 31, 95, 255, 31, 543, 2047, 4095, 8191]
theorem lag_Judge.tab4 : rtab .any (opsOf Try.f17 4) = lag_Judge.T4 := by kernel_rfl
theorem lag_Judge.bits4 : waitsOk lag_Judge.T4.2 lag_Judge.B4 = true := by kernel_rfl
set_option maxHeartbeats 8000000 in
set_option maxRecDepth 100000 in
theorem lag_Judge.calls (k : Nat) (a0_0 : Int) (a0_1 : Int) (a0_2 : Bool) (A1_0 : Option Addr) (c1_0 : Nat) (l1_0 : List (S51)) (A1_1 : Option Addr) (c1_1 : Nat) (l1_1 : List (S120)) (a1_2 : Int) (a1_3 : Int) (A2 : Option Addr) (c2 : Nat) (l2 : List (S120)) (r : Int) (w : World) (hr1_0 : Kd.C k51 w A1_0 l1_0.length l1_0) (hc1_0 : l1_0.length ≤ c1_0) (hr1_1 : Kd.C k120 w A1_1 l1_1.length l1_1) (hc1_1 : l1_1.length ≤ c1_1) (hr2 : Kd.C k120 w A2 l2.length l2) (hc2 : l2.length ≤ c2) (h : lag_Judge.f k a0_0 a0_1 a0_2 l1_0 l1_1 a1_2 a1_3 l2 = some r) :
  Calls Try.prog 17 #[.agg #[.int .i64 a0_0, .int .i64 a0_1, .bool a0_2], .agg #[.slice A1_0 l1_0.length c1_0, .slice A1_1 l1_1.length c1_1, .int .i64 a1_2, .int .i64 a1_3], .slice A2 l2.length c2] w fun e w' => e = .returned (.int .i64 r) ∧ Below w.heap.size w w' := by
 have hu61 := Try.underlying61
 have hu68 := Try.underlying68
 have HR1_0 := a0_ hr1_0
 have HC1_0 := a0_ hc1_0
 clear hr1_0 hc1_0
 have HR1_1 := a0_ hr1_1
 have HC1_1 := a0_ hc1_1
 clear hr1_1 hc1_1
 have HR2 := a0_ hr2
 have HC2 := a0_ hc2
 clear hr2 hc2
 have HB := a0_ (Below.refl w.heap.size w)
 have H : ((lag_Right.f a0_0 a0_1 a0_2).bind fun t155 => (if t155 = true then ((queue_Right.f k l1_0 l1_1 a1_2 a1_3).bind fun t156 => (lag_Judge.j0 k l2 (!t156) a0_0 a0_1 a0_2 l1_0 l1_1 a1_2 a1_3)) else (lag_Judge.j0 k l2 true a0_0 a0_1 a0_2 l1_0 l1_1 a1_2 a1_3))) = some r := h
 clear h
 have HC4 := a0_ H
 clear H
 go_enter Try.func17, Try.ntmps17
 go_upto_region 1 with (first | ((with_reducible refine gate_dst (N := 3) rfl ?_); refine box_event ?hg (N := 3) ?hd (cs := #[.int .i64 a0_0, .int .i64 a0_1, .bool a0_2]) (t := 61) ?hr ?_; (case hd => rfl); (case hg => rfl); (case hr => exact z11_); intro gb153 hg w5 hbox hb; have n0_ := a0_ (below_step z3_ hb); have n1_ := a0_ (hbox); have n2_ := a0_ ((z12_ : w.heap.size ≤ gb153)); have n3_ := a0_ ((z12_ : w.heap.size ≤ gb153)); clear HB; have HB := n0_; have BK153 := n1_; have GW153 := n2_; have GE153 := n3_; clear n0_ n1_ n2_ n3_; clear hb hbox hg) | ((with_reducible refine gate_dst (N := 4) rfl ?_); refine box_event ?hg (N := 4) ?hd (cs := #[.slice A1_0 l1_0.length c1_0, .slice A1_1 l1_1.length c1_1, .int .i64 a1_2, .int .i64 a1_3]) (t := 68) ?hr ?_; (case hd => rfl); (case hg => rfl); (case hr => exact z11_); intro gb154 hg w6 hbox hb; have n0_ := a0_ (blk_below z67_ hb); have n1_ := a0_ (below_step z68_ hb); have n2_ := a0_ (hbox); have n3_ := a0_ ((z69_ : w.heap.size ≤ gb154)); have n4_ := a0_ ((z69_ : w.heap.size ≤ gb154)); have n5_ := a0_ ((by rw [hg]; exact Nat.ne_of_lt (blk_lt (g := gb153) (o := .cells #[.int .i64 a0_0, .int .i64 a0_1, .bool a0_2] 61 (0, 0)) z67_) : gb153 ≠ gb154)); have n6_ := a0_ ((by rw [hg]; exact Nat.ne_of_gt (blk_lt (g := gb153) (o := .cells #[.int .i64 a0_0, .int .i64 a0_1, .bool a0_2] 61 (0, 0)) z67_) : gb154 ≠ gb153)); clear BK153; clear HB; have BK153 := n0_; have HB := n1_; have BK154 := n2_; have GW154 := n3_; have GE154 := n4_; have NB153_154 := n5_; have NB154_153 := n6_; clear n0_ n1_ n2_ n3_ n4_ n5_ n6_; clear hb hbox hg))
 (try simp only [Act.put, List.setIfInBounds_toArray, List.set_cons_zero, List.set_cons_succ])
 go_cut [16] (fun v16 wc => ∃ (kq : Nat) (x16_3 : Bool), v16 = .bool x16_3 ∧ Aside0 (lag_Judge.j0 kq l2 x16_3 a0_0 a0_1 a0_2 l1_0 l1_1 a1_2 a1_3 = some r) ∧ Aside0 (kq ≤ k) ∧ Aside0 (wc.heap[gb153]? = some (.cells #[.int .i64 a0_0, .int .i64 a0_1, .bool a0_2] 61 (0, 0))) ∧ Aside0 (wc.heap[gb154]? = some (.cells #[(.slice A1_0 l1_0.length c1_0), (.slice A1_1 l1_1.length c1_1), .int .i64 a1_2, .int .i64 a1_3] 68 (0, 0))) ∧ Aside0 (Below w.heap.size w wc))
 case first =>
  have H := HC4.out
  clear HC4
  replace H := Option.bind_eq_some_iff.mp H
  obtain ⟨t155, A70, H⟩ := H
  try dsimp only at H
  have A7 := a0_ A70
  clear A70
  by_cases c8 : t155 = true
  ·subst c8
   rw [if_pos rfl] at H
   replace H := Option.bind_eq_some_iff.mp H
   obtain ⟨t156, A90, H⟩ := H
   try dsimp only at H
   have A9 := a0_ A90
   clear A90
   have H' := a0_ H
   clear H
   have hnb10 := NB153_154.out
   have hnc10 := NB154_153.out
   have hcz11_0 : w6.cell? ⟨gb153, 0, none⟩ = some (.int .i64 a0_0) := (blk_cell BK153.out 0).trans rfl
   have hcz11_1 : w6.cell? ⟨gb153, 1, none⟩ = some (.int .i64 a0_1) := (blk_cell BK153.out 1).trans rfl
   have hcz11_2 : w6.cell? ⟨gb153, 2, none⟩ = some (.bool a0_2) := (blk_cell BK153.out 2).trans rfl
   obtain ⟨hfz11_0, hfz11_1, hfz11_2⟩ := bf3_ BK153.out
   go_wp2_with (first | ((with_reducible refine gate_callee (f := 13) rfl ?_); refine goesL_ (some 10) rfl rfl Try.func13 z6_ rfl #[.agg #[.int .i64 a0_0, .int .i64 a0_1, .bool a0_2]] rfl z16_ ?_; (with_reducible refine (lag_Right.calls a0_0 a0_1 a0_2 true _ A7.out).mono ?_); rintro e w12 ⟨rfl, hb⟩; refine ⟨_, rfl, ?_⟩; replace BK153 := a0_ (blk_below z67_ hb); replace BK154 := a0_ (blk_below z70_ hb); replace HB := a0_ (below_step z66_ hb); (try clear hb); (try clear hb2); (try clear hk); (try clear hi); have hcz13_0 : w12.cell? ⟨gb154, 0, none⟩ = some (.slice A1_0 l1_0.length c1_0) := (blk_cell BK154.out 0).trans rfl; have hcz13_1 : w12.cell? ⟨gb154, 1, none⟩ = some (.slice A1_1 l1_1.length c1_1) := (blk_cell BK154.out 1).trans rfl; have hcz13_2 : w12.cell? ⟨gb154, 2, none⟩ = some (.int .i64 a1_2) := (blk_cell BK154.out 2).trans rfl; have hcz13_3 : w12.cell? ⟨gb154, 3, none⟩ = some (.int .i64 a1_3) := (blk_cell BK154.out 3).trans rfl; obtain ⟨hfz13_0, hfz13_1, hfz13_2, hfz13_3⟩ := bf4_ BK154.out) | (go_at_call 51; (with_reducible refine (queue_Right.calls k _ _ l1_0 _ _ l1_1 a1_2 a1_3 t156 _ ?side1 ?side2 ?side3 ?side4 A9.out).mono ?_); (case side1 => exact z71_); (case side2 => exact HC1_0.out); (case side3 => exact z72_); (case side4 => exact HC1_1.out); rintro e w14 ⟨rfl, hb⟩; replace BK153 := a0_ (blk_below z67_ hb); replace BK154 := a0_ (blk_below z70_ hb); replace HB := a0_ (below_step z66_ hb); (try clear hb); (try clear hb2); (try clear hk); (try clear hi)))
   go_meet
   case rel => exact ⟨_, (!t156), z4_, H', ⟨z21_⟩, ⟨z67_⟩, ⟨z70_⟩, ⟨z66_⟩⟩
  ·replace c8 := Bool.eq_false_iff.mpr c8
   subst c8
   rw [if_neg (show ¬ (false = true) from z8_)] at H
   have H' := a0_ H
   clear H
   have hnb15 := NB153_154.out
   have hnc15 := NB154_153.out
   have hcz16_0 : w6.cell? ⟨gb153, 0, none⟩ = some (.int .i64 a0_0) := (blk_cell BK153.out 0).trans rfl
   have hcz16_1 : w6.cell? ⟨gb153, 1, none⟩ = some (.int .i64 a0_1) := (blk_cell BK153.out 1).trans rfl
   have hcz16_2 : w6.cell? ⟨gb153, 2, none⟩ = some (.bool a0_2) := (blk_cell BK153.out 2).trans rfl
   obtain ⟨hfz16_0, hfz16_1, hfz16_2⟩ := bf3_ BK153.out
   go_wp2_with (first | ((with_reducible refine gate_callee (f := 13) rfl ?_); refine goesL_ (some 10) rfl rfl Try.func13 z6_ rfl #[.agg #[.int .i64 a0_0, .int .i64 a0_1, .bool a0_2]] rfl z16_ ?_; (with_reducible refine (lag_Right.calls a0_0 a0_1 a0_2 false _ A7.out).mono ?_); rintro e w17 ⟨rfl, hb⟩; refine ⟨_, rfl, ?_⟩; replace BK153 := a0_ (blk_below z67_ hb); replace BK154 := a0_ (blk_below z70_ hb); replace HB := a0_ (below_step z66_ hb); (try clear hb); (try clear hb2); (try clear hk); (try clear hi)))
   go_meet
   case rel => exact ⟨_, (true), z4_, H', ⟨z21_⟩, ⟨z67_⟩, ⟨z70_⟩, ⟨z66_⟩⟩
 case rest =>
  clear HC4
  obtain ⟨kq, x16_3, rfl, HA, HJ3, BK153, BK154, HB⟩ := hcut
  cases kq with
  | zero => exact absurd HA.out (by simp [lag_Judge.j0])
  | succ kj3 =>
   have H := HA.out
   clear HA
   simp only [lag_Judge.j0] at H
   by_cases c18 : x16_3 = true
   ·subst c18
    rw [if_pos rfl] at H
    obtain rfl := Option.some.inj H
    go_wp2
    go_ret
    exact qrx50_
   ·replace c18 := Bool.eq_false_iff.mpr c18
    subst c18
    rw [if_neg (show ¬ (false = true) from z8_)] at H
    replace H := Option.bind_eq_some_iff.mp H
    obtain ⟨⟨t157, t158⟩, A190, H⟩ := H
    try dsimp only at H
    have A19 := a0_ A190
    clear A190
    have HC20 := a0_ H
    clear H
    have hnb21 := NB154_153.out
    have hnc21 := NB153_154.out
    have hcz22_0 : wc.cell? ⟨gb154, 0, none⟩ = some (.slice A1_0 l1_0.length c1_0) := (blk_cell BK154.out 0).trans rfl
    have hcz22_1 : wc.cell? ⟨gb154, 1, none⟩ = some (.slice A1_1 l1_1.length c1_1) := (blk_cell BK154.out 1).trans rfl
    have hcz22_2 : wc.cell? ⟨gb154, 2, none⟩ = some (.int .i64 a1_2) := (blk_cell BK154.out 2).trans rfl
    have hcz22_3 : wc.cell? ⟨gb154, 3, none⟩ = some (.int .i64 a1_3) := (blk_cell BK154.out 3).trans rfl
    obtain ⟨hfz22_0, hfz22_1, hfz22_2, hfz22_3⟩ := bf4_ BK154.out
    go_upto_region 4 with (first | ((with_reducible refine gate_callee (f := 21) rfl ?_); refine goesL_ (some 19) rfl rfl Try.func21 z6_ rfl #[.agg #[.slice A1_0 l1_0.length c1_0, .slice A1_1 l1_1.length c1_1, .int .i64 a1_2, .int .i64 a1_3]] rfl z16_ ?_; (with_reducible refine (queue_Load.calls kj3 _ _ l1_0 _ _ l1_1 a1_2 a1_3 t157 t158 _ ?side1 ?side2 ?side3 ?side4 A19.out).mono ?_); (case side1 => exact z71_); (case side2 => exact HC1_0.out); (case side3 => exact z72_); (case side4 => exact HC1_1.out); rintro e w23 ⟨rfl, hb⟩; refine ⟨_, rfl, ?_⟩; replace BK153 := a0_ (blk_below z67_ hb); replace BK154 := a0_ (blk_below z70_ hb); replace HB := a0_ (below_step z66_ hb); (try clear hb); (try clear hb2); (try clear hk); (try clear hi)))
    (try simp only [Act.put, List.setIfInBounds_toArray, List.set_cons_zero, List.set_cons_succ])
    go_cut [22] (fun v22 wc => ∃ (kq : Nat) (x22_19 : Bool), v22 = .bool x22_19 ∧ Aside0 (lag_Judge.j1 kq x22_19 a0_0 a0_1 a0_2 = some r) ∧ Aside0 (kq ≤ kj3) ∧ Aside0 (wc.heap[gb153]? = some (.cells #[.int .i64 a0_0, .int .i64 a0_1, .bool a0_2] 61 (0, 0))) ∧ Aside0 (wc.heap[gb154]? = some (.cells #[(.slice A1_0 l1_0.length c1_0), (.slice A1_1 l1_1.length c1_1), .int .i64 a1_2, .int .i64 a1_3] 68 (0, 0))) ∧ Aside0 (Below w.heap.size w wc))
    case first =>
     have H := HC20.out
     clear HC20
     by_cases c24 : t157 < a0_0
     ·rw [if_pos c24] at H
      have c24b0 : decide (t157 < a0_0) = true := decide_eq_true c24
      clear c24
      (first | rw [c24b0] | (simp only [i64_w, i32_w]; rw [c24b0]) | skip)
      replace H := Option.bind_eq_some_iff.mp H
      obtain ⟨t159, A250, H⟩ := H
      try dsimp only at H
      have A25 := a0_ A250
      clear A250
      have H' := a0_ H
      clear H
      try go_wp2
      have n0_ := a0_ (blk_drew BK153.out)
      have n1_ := a0_ (blk_drew BK154.out)
      have n2_ := a0_ (below_drew1 HB.out)
      clear BK153
      clear BK154
      clear HB
      have BK153 := n0_
      have BK154 := n1_
      have HB := n2_
      clear n0_ n1_ n2_
      refine st_ 14 (S := fun w' => w'.cell? ⟨gb153, 0, none⟩ = some (.int .i64 a0_0) ∧ w'.cell? ⟨gb153, 1, none⟩ = some (.int .i64 a0_1) ∧ w'.cell? ⟨gb153, 2, none⟩ = some (.bool a0_2)) (ds := []) ⟨(blk_cell BK153.out 0).trans rfl, (blk_cell BK153.out 1).trans rfl, (blk_cell BK153.out 2).trans rfl⟩ (fun hHeld => ?_); refine with_tabW lag_Judge.tab4 lag_Judge.bits4 (fun HT_ HW_ => ?_)
      generalize w23.drew = w26 at BK153 BK154 HB hHeld ⊢
      refine pq_ 0 (some 23) rfl rfl ?_
      refine pq_ 1 (some 24) rfl rfl ?_
      refine tq_ 2 (some 25) rfl rfl hHeld ?_
      refine pq_ 3 (some 26) rfl rfl ?_
      refine pq_ 4 (some 27) rfl rfl ?_
      refine pq_ 5 (some 28) rfl rfl ?_
      refine pq_ 6 (some 29) rfl rfl ?_
      refine pq_ 9 (some 32) rfl rfl ?_
      refine tq_ 10 (some 33) rfl rfl hHeld ?_
      refine oq_ 7 (some 30) rfl rfl (fun K hK => ?_)
      refine goes_ Try.func52 z6_ rfl #[.slice A2 l2.length c2] (by rfl) rfl rfl z16_ ?_
      with_reducible refine (fold_Bytes.calls kj3 _ _ l2 t159 _ ?side1 ?side2 A25.out).mono ?_
      (case side1 => repeat (first | exact (Kd.C_below HR2.out HB.out) | (with_reducible refine Kd.C_alloc ?_ _) | (with_reducible refine Kd.C_drewN ?_ _) | (with_reducible refine Kd.C_drew ?_)))
      (case side2 => exact HC2.out)
      rintro e w27 ⟨rfl, hb⟩
      refine ⟨_, rfl, ?_⟩
      have n0_ := a0_ (blk_below z67_ hb)
      have n1_ := a0_ (blk_below z70_ hb)
      have n2_ := a0_ (below_step z66_ hb)
      clear BK153
      clear BK154
      clear HB
      have BK153 := n0_
      have BK154 := n1_
      have HB := n2_
      clear n0_ n1_ n2_
      (try clear hb)
      (try clear hb2)
      (try clear hk)
      (try clear hi)
      refine hK.out _ _ (by exact ⟨(blk_cell BK153.out 0).trans rfl, (blk_cell BK153.out 1).trans rfl, (blk_cell BK153.out 2).trans rfl⟩) (fun hHeld => ?_)
      clear hK K
      refine norm_ (a' := ?_) ?_ ?_
      rotate_left
      ·show Act.put _ (some 30) _ = _
       exact put_
      refine pq_ 8 (some 31) rfl rfl ?_
      refine pq_ 11 (some 34) rfl rfl ?_
      refine pq_ 12 (some 35) rfl rfl ?_
      refine pq_ 13 (some 22) rfl rfl ?_
      refine done_ (done_of HT_.out z6_) ?_
      try go_wp2
      go_meet
      case rel => exact ⟨_, (decide ((wrap64 (t158 + t159)) ≤ a0_1)), z4_, H', ⟨z73_⟩, ⟨z67_⟩, ⟨z70_⟩, ⟨z66_⟩⟩
     ·rw [if_neg c24] at H
      have c24b0 : decide (t157 < a0_0) = false := decide_eq_false c24
      clear c24
      (first | rw [c24b0] | (simp only [i64_w, i32_w]; rw [c24b0]) | skip)
      have H' := a0_ H
      clear H
      try go_wp2
      have n0_ := a0_ (blk_drew BK153.out)
      have n1_ := a0_ (blk_drew BK154.out)
      have n2_ := a0_ (below_drew1 HB.out)
      clear BK153
      clear BK154
      clear HB
      have BK153 := n0_
      have BK154 := n1_
      have HB := n2_
      clear n0_ n1_ n2_
      refine st_ 14 (S := fun w' => w'.cell? ⟨gb153, 0, none⟩ = some (.int .i64 a0_0) ∧ w'.cell? ⟨gb153, 1, none⟩ = some (.int .i64 a0_1) ∧ w'.cell? ⟨gb153, 2, none⟩ = some (.bool a0_2)) (ds := []) ⟨(blk_cell BK153.out 0).trans rfl, (blk_cell BK153.out 1).trans rfl, (blk_cell BK153.out 2).trans rfl⟩ (fun hHeld => ?_); refine with_tabW lag_Judge.tab4 lag_Judge.bits4 (fun HT_ HW_ => ?_)
      generalize w23.drew = w28 at BK153 BK154 HB hHeld ⊢
      refine pq_ 0 (some 23) rfl rfl ?_
      refine pq_ 1 (some 24) rfl rfl ?_
      refine tq_ 2 (some 25) rfl rfl hHeld ?_
      refine pq_ 3 (some 26) rfl rfl ?_
      refine pq_ 4 (some 27) rfl rfl ?_
      refine pw_ 5 (some 28) rfl rfl ?_
      refine pw_ 6 (some 29) rfl rfl ?_
      refine pw_ 7 (some 30) rfl rfl ?_
      refine pw_ 8 (some 31) rfl rfl ?_
      refine pw_ 9 (some 32) rfl rfl ?_
      refine pw_ 10 (some 33) rfl rfl ?_
      refine pw_ 11 (some 34) rfl rfl ?_
      refine pq_ 12 (some 35) rfl rfl ?_
      refine pq_ 13 (some 22) rfl rfl ?_
      refine done_ (done_of HT_.out z6_) ?_
      try go_wp2
      go_meet
      case rel => exact ⟨_, (false), z4_, H', ⟨z73_⟩, ⟨z67_⟩, ⟨z70_⟩, ⟨z66_⟩⟩
    case rest =>
     clear HC20
     obtain ⟨kq, x22_19, rfl, HA, HJ19, BK153, BK154, HB⟩ := hcut
     cases kq with
     | zero => exact absurd HA.out (by simp [lag_Judge.j1])
     | succ kj19 =>
      have H := HA.out
      clear HA
      simp only [lag_Judge.j1] at H
      by_cases c29 : x22_19 = true
      ·subst c29
       rw [if_pos rfl] at H
       obtain rfl := Option.some.inj H
       go_wp2
       go_ret
       exact qrx50_
      ·replace c29 := Bool.eq_false_iff.mpr c29
       subst c29
       rw [if_neg (show ¬ (false = true) from z8_)] at H
       by_cases c30 : a0_2 = true
       ·subst c30
        rw [if_pos rfl] at H
        obtain rfl := Option.some.inj H
        have hnb31 := NB153_154.out
        have hnc31 := NB154_153.out
        have hcz32_0 : wc.cell? ⟨gb153, 0, none⟩ = some (.int .i64 a0_0) := (blk_cell BK153.out 0).trans rfl
        have hcz32_1 : wc.cell? ⟨gb153, 1, none⟩ = some (.int .i64 a0_1) := (blk_cell BK153.out 1).trans rfl
        have hcz32_2 : wc.cell? ⟨gb153, 2, none⟩ = some (.bool true) := (blk_cell BK153.out 2).trans rfl
        obtain ⟨hfz32_0, hfz32_1, hfz32_2⟩ := bf3_ BK153.out
        go_wp2
        go_ret
        exact qrx50_
       ·replace c30 := Bool.eq_false_iff.mpr c30
        subst c30
        rw [if_neg (show ¬ (false = true) from z8_)] at H
        obtain rfl := Option.some.inj H
        have hnb33 := NB153_154.out
        have hnc33 := NB154_153.out
        have hcz34_0 : wc.cell? ⟨gb153, 0, none⟩ = some (.int .i64 a0_0) := (blk_cell BK153.out 0).trans rfl
        have hcz34_1 : wc.cell? ⟨gb153, 1, none⟩ = some (.int .i64 a0_1) := (blk_cell BK153.out 1).trans rfl
        have hcz34_2 : wc.cell? ⟨gb153, 2, none⟩ = some (.bool false) := (blk_cell BK153.out 2).trans rfl
        obtain ⟨hfz34_0, hfz34_1, hfz34_2⟩ := bf3_ BK153.out
        go_wp2
        go_ret
        exact qrx50_
def kSets (w0 : World) : Kd (S51 × Bool) where
 sz := k51.sz
 E := k51.E
 K := fun w x cs => (x.2 = true → k51.K w x.1 cs) ∧ (x.2 = false → k51.K w0 x.1 cs)
 M := fun w base ok x cs => (x.2 = true → k51.M w base ok x.1 cs) ∧ (x.2 = false → k51.K w0 x.1 cs)
 K_len := fun {w x cs} h => by
  cases hx : x.2 with
  | true => exact k51.K_len (h.1 hx)
  | false => exact k51.K_len (h.2 hx)
 K_one := fun {w x cs} h => by
  cases hx : x.2 with
  | true => exact k51.K_one (h.1 hx)
  | false => exact k51.K_one (h.2 hx)
 K_below := fun hb h => ⟨fun hx => k51.K_below hb (h.1 hx), h.2⟩
 K_of_M := fun h => ⟨fun hx => k51.K_of_M (h.1 hx), h.2⟩
 M_mono := fun hok h => ⟨fun hx => k51.M_mono hok (h.1 hx), h.2⟩
 M_bound := fun h => ⟨fun hx => k51.M_bound (h.1 hx), h.2⟩
 M_move := fun hm h => ⟨fun hx => k51.M_move hm (h.1 hx), h.2⟩
 M_lower := fun hb h => ⟨fun hx => k51.M_lower hb (h.1 hx), h.2⟩
def mixed (l : List S51) (i : Nat) : List (S51 × Bool) := (l.take i).map (fun x => (x, true)) ++ (l.drop i).map (fun x => (x, false))
theorem mixed_zero (l : List S51) : mixed l 0 = l.map (fun x => (x, false)) := by unfold mixed; simp
theorem mixed_length (l : List S51) (i : Nat) : (mixed l i).length = l.length := by
 unfold mixed
 rw [List.length_append, List.length_map, List.length_map, List.length_take, List.length_drop]
 omega
theorem mixed_at {l : List S51} {i : Nat} (h : i < l.length) : i - ((l.take i).map (fun x => (x, true))).length = 0 := by rw [List.length_map, List.length_take]; omega
theorem mixed_set {l : List S51} {i : Nat} (h : i < l.length) : (mixed l i).set i (l[i], true) = mixed l (i + 1) := by
 unfold mixed
 rw [List.set_append_right _ _ z74_, mixed_at h, List.drop_eq_getElem_cons h, List.map_cons, List.set_cons_zero, List.take_succ_eq_append_getElem h, List.map_append, List.append_assoc]
 rfl
theorem infoSet : (Try.prog.info? 51).map (fun i => (i.zero, i.size, i.bytes)) = some (some (.agg #[.int .i64 0, .int .i64 0, .slice none 0 0]), 3, 40) := by kernel_rfl
set_option maxHeartbeats 1000000 in
set_option maxRecDepth 100000 in
theorem cloneSets (A0 : Option Addr) (c0 : Nat) (l0 : List S51) (w w1 : World) (hr0 : Kd.C k51 w A0 l0.length l0) (hB : Below w.heap.size w w1) (hl : l0.length ≤ 3000000) :
  Calls Try.prog 88 #[.slice A0 l0.length c0] w1 fun e w' => ∃ v0_ : Value, e = .returned v0_ ∧ Kd.R (kSets w) 51 w' w1.heap.size (fun _ => True) v0_ (mixed l0 0) ∧ Below w1.heap.size w1 w' := by
 have HB := a0_ hB
 clear hB
 rw [mixed_zero]
 cases A0 with
 | none =>
  have hl : l0 = [] := by
   cases l0 with
   | nil => rfl
   | cons x xs => obtain ⟨ad, e, _⟩ := hr0.2.2 (by simp); cases e
  subst hl
  clear hr0
  have hq := fun w' => run_eql_slice_nil (P := Try.prog) w' 66 51 none 0 c0 Try.underlying66
  go_enter Try.func88, Try.ntmps88
  go_wp2
  go_ret
  exact ⟨_, rfl, Kd.R_nil _ _ _ _ _, Below.refl _ _⟩
 | some a0 =>
  have HR := a0_ hr0
  have HL := a0_ hl
  clear hr0 hl
  have hq := fun w' => run_eql_slice_nil (P := Try.prog) w' 66 51 (some a0) l0.length c0 Try.underlying66
  have HK : Aside0 (∀ W, Below w.heap.size w W → ReadsRow (fun (p : S51 × Bool) cs => p.2 = false ∧ k51.K w p.1 cs) 3 W (some a0) l0.length (l0.map (fun x => (x, false)))) := ⟨fun W hB => by
   have h := ReadsRow.imp_ HR.out hB (R' := k51.K w) (fun _ _ h => h)
   obtain ⟨h1, h2, h3⟩ := h
   refine ⟨List.length_map _, h2, fun h0 => ?_⟩
   obtain ⟨ad, e, hx⟩ := h3 h0
   refine ⟨ad, e, fun j p hj => ?_⟩
   rw [List.getElem?_map] at hj
   obtain ⟨q, hq, rfl⟩ := Option.map_eq_some_iff.1 hj
   obtain ⟨c, hc1, hc2, hc3⟩ := hx j q hq
   exact ⟨c, hc1, ⟨rfl, hc2⟩, hc3⟩⟩
  go_enter Try.func88, Try.ntmps88
  go_wp2_with (first | ((with_reducible refine gate_dst (N := 5) rfl ?_); refine Kd.R_lit (kSets w) w1.heap.size 51 ?hg (N := 5) ?hd (xs := ([] : List (S51 × Bool))) (inner := []) (ok := fun _ => True) (okp := fun _ => True) ?hr ?hp (fun _ hk => hk) trivial (Below.refl _ _) (Nat.le_refl _) (by simp) ?_; (case hd => rfl); (case hg => rfl); (case hr => exact z30_); (case hp => exact Reps.none _ _); intro v5 w5 ho5 hb hg_ hnew_; have HO5 := a0_ ho5; have HB5 := a0_ hb; clear hg_ hnew_ hb ho5) | ((with_reducible refine gate_builtin (b := .append) (xs := #[.tmp 5, .tmp 6]) rfl ?_); at_builtin; refine Kd.R_append_rows (kSets w) (Rr := fun (p : S51 × Bool) cs => p.2 = false ∧ k51.K w p.1 cs) (w0 := w1) w1.heap.size rfl (.tmp 5) (.tmp 6) 66 51 (.agg #[.int .i64 0, .int .i64 0, .slice none 0 0]) 40 rfl Try.underlying66 infoSet rfl (show 0 < k51.sz from z8_) z7_ v5 [] (l0.map (fun x => (x, false))) _ _ _ (fun _ => True) (fun _ => False) rfl rfl ?aO ?aR ?aK (fun _ h => h.elim) ?aF ?aB ?aS ?aL ?_; (case aO => exact HO5.out); (case aK => exact fun x cs h => ⟨fun hx => (by rw [h.1] at hx; cases hx), fun _ => h.2⟩); (case aR => exact HK.out _ (below_step HB.out HB5.out)); (case aF => exact z32_); (case aB => exact HB5.out); (case aS => exact z33_); (case aL => exact z34_); intro v7 w7 ho7 hb7 hg_ hat_; have HO7 := a0_ ho7; have HB7 := a0_ hb7; clear ho7 hb7 hg_ hat_))
  go_ret
  exact ⟨_, rfl, HO7.out, HB7.out⟩
def NM (w0 : World) (i : Nat) (W : World) (base : Nat) (ok : Nat → Prop) (v : Value) (x : List S51) : Prop := Kd.N (kSets w0) 51 W base ok v (mixed x i)
section
variable {w0 W W1 w1 : World} {i base n c : Nat} {ok ok' : Nat → Prop} {u v : Value} {x : List S51} {A : Option Addr}
theorem NM_mono (h : NM w0 i W base ok v x) (hok : ∀ k, ok k → ok' k) : NM w0 i W base ok' v x := Kd.N_mono h hok
theorem NM_drew (h : NM w0 i W base ok v x) : NM w0 i W.drew base ok v x := Kd.N_drew h
theorem NM_far (h : NM w0 i W base ok v x) {p : Addr} (hok : ∀ k, ok k → k ≠ p.block) (u : Value) : NM w0 i (W.setCell p u) base ok v x := Kd.N_far h hok u
theorem NM_elder' (h : NM w0 i W base ok v x) (hbase : ∀ k, u.ownBlock = some k → W.heap.size ≤ k) (hb : Below W.heap.size W w1) : NM w0 i w1 base (fun k => ok k ∧ some k ≠ u.ownBlock) v x := Kd.N_elder' h hbase hb
theorem NM_typed (h : NM w0 i W base ok v x) : ∀ k, v.ownBlock = some k → ∃ cells, W.heap[k]? = some (.cells cells 51 (0, 0)) := Kd.N_typed h
theorem NM_away {g : Nat} (h : NM w0 i W base ok v x) (hok : ∀ k, ok k → k ≠ g) : some g ≠ v.ownBlock := Kd.N_away h hok
theorem NM_slice (h : NM w0 i W base ok v x) : ∃ A c, v = .slice A x.length c := by
 obtain ⟨A, c, e⟩ := Kd.N_slice h
 rw [mixed_length] at e
 exact ⟨A, c, e⟩
theorem NM_form (h : NM w0 i W base ok v x) (hp : 0 < x.length) : ∃ g cap, v = .slice (some ⟨g, 0, none⟩) x.length cap ∧ base ≤ g ∧ g < W.heap.size ∧ ∃ cells, W.heap[g]? = some (.cells cells 51 (0, 0)) := by
 have := Kd.N_form h (by rw [mixed_length]; exact hp)
 rw [mixed_length] at this
 exact this
theorem kSets_now (hB : Below w0.heap.size w0 W) {p : S51 × Bool} {cs : List Value} (h : (kSets w0).K W p cs) : k51.K W p.1 cs := by
 cases hp : p.2 with
 | true => exact h.1 hp
 | false => exact k51.K_below hB (h.2 hp)
theorem mixed_fst (x : List S51) (i j : Nat) (h : j < x.length) : ∃ b, (mixed x i)[j]? = some (x[j], b) := by
 unfold mixed
 by_cases hj : j < i
 ·refine ⟨true, ?_⟩
  rw [List.getElem?_append_left z74_, List.getElem?_map, List.getElem?_take, if_pos hj, List.getElem?_eq_getElem h]
  rfl
 ·refine ⟨false, ?_⟩
  rw [List.getElem?_append_right z74_, List.length_map, List.length_take, List.getElem?_map, List.getElem?_drop, show i + (j - min i x.length) = j from z7_, List.getElem?_eq_getElem h]
  rfl
theorem NM_reads' (hB : Below w0.heap.size w0 W) (h : NM w0 i W base ok (.slice A n c) x) : n = x.length ∧ n ≤ c ∧ Kd.C k51 W A x.length x := by
 obtain ⟨h1, h2, h3⟩ := Kd.N_reads' h
 rw [mixed_length] at h1 h3
 refine ⟨h1, h2, rfl, h3.2.1, fun hp => ?_⟩
 obtain ⟨ad, e, hx⟩ := h3.2.2 hp
 refine ⟨ad, e, fun j p hj => ?_⟩
 obtain ⟨hjl, rfl⟩ := List.getElem?_eq_some_iff.1 hj
 obtain ⟨b, hb⟩ := mixed_fst x i j hjl
 obtain ⟨cs, q1, q2, q3⟩ := hx j _ hb
 exact ⟨cs, q1, kSets_now hB q2, q3⟩
theorem set_FK {p : S51} {cs : List Value} (h : k51.K W p cs) : Kd.FK k51 W (fun k => k < W.heap.size) p cs := fun W' hW => k51_heap.K (fun k hlt => hW k hlt hlt) h
theorem NM_elem {g cap : Nat} (hB : Below w0.heap.size w0 W) (h : NM w0 i W base ok (.slice (some ⟨g, 0, none⟩) n cap) x) (j : Int) (h0 : 0 ≤ j) (h1 : j < n) :
  ∃ cs, cs.length = 3 ∧ Kd.FK k51 W (fun k => k < W.heap.size) (x.getD j.toNat z51) cs ∧ (∀ m u, cs[m]? = some u → W.cell? ⟨g, j.toNat * 3 + m, none⟩ = some u) ∧ ∀ m, W.frozen? ⟨g, j.toNat * 3 + m, none⟩ = false := by
 have hn := (NM_reads' hB h).1
 obtain ⟨cs, q1, q2, q3, q4⟩ := Kd.N_elem h (z51, true) j h0 h1
 have hj : j.toNat < x.length := by omega
 obtain ⟨b, hb⟩ := mixed_fst x i j.toNat hj
 rw [List.getD_eq_getElem?_getD, hb, Option.getD_some] at q2
 refine ⟨cs, q1, set_FK ?_, q3, q4⟩
 rw [List.getD_eq_getElem?_getD, List.getElem?_eq_getElem hj, Option.getD_some]
 exact kSets_now hB (Kd.FK_now q2)
theorem NM_get {ad : Addr} {cap : Nat} (hB : Below w0.heap.size w0 W) (h : NM w0 i W base ok (.slice (some ad) n cap) x) (j : Int) (h0 : 0 ≤ j) (h1 : j < n) :
  ∃ cs, cs.length = 3 ∧ Kd.FK k51 W (fun k => k < W.heap.size) (x.getD j.toNat z51) cs ∧ ∀ m u, cs[m]? = some u → W.cell? (ad.add (j.toNat * 3 + m)) = some u := by
 have hn := (NM_reads' hB h).1
 obtain ⟨cs, q1, q2, q3⟩ := Kd.N_get h (z51, true) j h0 h1
 have hj : j.toNat < x.length := by omega
 obtain ⟨b, hb⟩ := mixed_fst x i j.toNat hj
 rw [List.getD_eq_getElem?_getD, hb, Option.getD_some] at q2
 refine ⟨cs, q1, set_FK ?_, q3⟩
 rw [List.getD_eq_getElem?_getD, List.getElem?_eq_getElem hj, Option.getD_some]
 exact kSets_now hB (Kd.FK_now q2)
theorem mixed_set' {x : List S51} {i : Nat} (h : i < x.length) (p : S51) : (mixed x i).set i (p, true) = mixed (x.set i p) (i + 1) := by
 have e := mixed_set (l := x.set i p) (i := i) (by rw [List.length_set]; exact h)
 rw [List.getElem_set_self] at e
 rw [← e]
 refine List.ext_getElem? (fun m => ?_)
 by_cases hm : m = i
 ·subst hm
  rw [List.getElem?_set_self (by rw [mixed_length]; exact h), List.getElem?_set_self (by rw [mixed_length, List.length_set]; exact h)]
 ·rw [List.getElem?_set_ne (Ne.symm hm), List.getElem?_set_ne (Ne.symm hm)]
  unfold mixed
  rw [List.take_set, List.drop_set]
  rw [List.getElem?_append, List.getElem?_append]
  simp only [List.length_map, List.length_set, List.length_take]
  split
  ·rw [List.getElem?_map, List.getElem?_map, List.getElem?_set_ne (Ne.symm hm)]
  ·rename_i hge
   rw [List.getElem?_map, List.getElem?_map]
   split
   ·rfl
   ·rw [List.getElem?_set_ne z7_]
theorem NM_seg {g cap : Nat} {okp : Nat → Prop} (h : NM w0 i W base ok (.slice (some ⟨g, 0, none⟩) n cap) x) (q : Int) (hqi : q.toNat = i) (h0 : 0 ≤ q) (h1 : q < n) {c seg : List Value} {j : Nat} (hcl : c.length = 3) (hcc : ∀ m u, c[m]? = some u → W.cell? ⟨g, q.toNat * 3 + m, none⟩ = some u)
  (hj : j + seg.length ≤ 3) {x' : S51} (hM : Kd.FK k51 W okp x' (c.take j ++ seg ++ c.drop (j + seg.length))) (hokp : ∀ k, okp k → ok k ∧ k ≠ g) :
  NM w0 (i + 1) (W.setCells g (q.toNat * 3 + j) seg) base ok (.slice (some ⟨g, 0, none⟩) n cap) (x.set q.toNat x') ∧ W.grownBy (W.setCells g (q.toNat * 3 + j) seg) (some g) := by
 have hn := (Kd.N_reads' h).1
 rw [mixed_length] at hn
 have := Kd.N_seg h q h0 h1 (c := c) (seg := seg) (j := j) (x' := (x', true)) (okp := okp) hcl hcc hj (fun W' hW => ⟨fun _ => hM W' hW, fun hf => by cases hf⟩) hokp
 rw [hqi, mixed_set' z7_] at this
 rw [hqi]
 exact this
theorem NM_all (h : NM w0 i W base ok v x) (hi : x.length ≤ i) : Kd.N k51 51 W base ok v x := by
 obtain ⟨h0, rows, hl, hR, hf⟩ := h
 rw [mixed_length] at hl
 refine ⟨h0, rows, hl, hR, fun j p cs hj hc => ?_⟩
 obtain ⟨hjl, rfl⟩ := List.getElem?_eq_some_iff.1 hj
 have hm : (mixed x i)[j]? = some (x[j], true) := by
  unfold mixed
  rw [List.getElem?_append_left z74_, List.getElem?_map, List.getElem?_take, if_pos z7_, List.getElem?_eq_getElem hjl]
  rfl
 exact fun W' hW => (hf j _ cs hm hc W' hW).1 rfl
end
def api_Set_88.f (l0 : List S51) : Option (List S51) := if l0.length ≤ 3000000 then some l0 else none
theorem api_Set_88.callsNM (A0 : Option Addr) (c0 : Nat) (l0 r : List S51) (w w1 : World) (hr0 : Kd.C k51 w A0 l0.length l0) (hc0 : l0.length ≤ c0) (hB : Below w.heap.size w w1) (h : api_Set_88.f l0 = some r) :
  Calls Try.prog 88 #[.slice A0 l0.length c0] w1 fun e w' => ∃ v0_ : Value, e = .returned v0_ ∧ NM w 0 w' w.heap.size (fun k => w.heap.size ≤ k ∧ w1.heap.size ≤ k) v0_ r ∧ Below w1.heap.size w1 w' := by
 unfold api_Set_88.f at h
 by_cases c1 : l0.length ≤ 3000000
 ·rw [if_pos c1] at h
  obtain rfl := Option.some.inj h
  refine (cloneSets A0 c0 l0 w w1 hr0 hB c1).mono ?_
  rintro e w' ⟨v, rfl, hR, hb⟩
  exact ⟨v, rfl, Kd.N_lower (Kd.N_mono (Kd.R_N (Kd.R_bound hR)) (fun k hk => ⟨Nat.le_trans (below_size hB) hk.2.1, hk.2.1⟩)) (below_size hB), hb⟩
 ·rw [if_neg c1] at h; cases h
def api_Write_89.f (l0 : List (S120)) : Option (List (S120)) := if l0.length ≤ 4398046511104 then some l0 else none
theorem infoWr : (Try.prog.info? 120).map (fun i => (i.zero, i.size, i.bytes)) = some (some (.agg #[.int .i64 0, .int .i64 0, .string ⟨#[]⟩]), 3, 32) := by kernel_rfl
set_option maxHeartbeats 1000000 in
set_option maxRecDepth 100000 in
theorem api_Write_89.calls (A0 : Option Addr) (c0 : Nat) (l0 : List (S120)) (r : List (S120)) (w : World) (hr0 : Kd.C k120 w A0 l0.length l0) (hc0 : l0.length ≤ c0) (h : api_Write_89.f l0 = some r) :
  Calls Try.prog 89 #[.slice A0 l0.length c0] w fun e w' => ∃ v0_ : Value, e = .returned v0_ ∧ Kd.R k120 120 w' w.heap.size (fun _ => True) v0_ r ∧ Below w.heap.size w w' := by
 have HB := a0_ (Below.refl w.heap.size w)
 unfold api_Write_89.f at h
 by_cases c1 : l0.length ≤ 4398046511104
 ·rw [if_pos c1] at h
  obtain rfl : l0 = r := by injection h
  cases A0 with
  | none =>
   have hl : l0 = [] := by
    cases l0 with
    | nil => rfl
    | cons x xs => obtain ⟨ad, e, _⟩ := hr0.2.2 (by simp); cases e
   subst hl
   clear h hr0
   have hq := fun w' => run_eql_slice_nil (P := Try.prog) w' 49 120 none 0 c0 Try.underlying49
   go_enter Try.func89, Try.ntmps89
   go_wp2
   go_ret
   exact ⟨_, rfl, Kd.R_nil _ _ _ _ _, HB.out⟩
  | some a0 =>
   have HR := a0_ hr0
   have HL := a0_ c1
   clear h hr0 c1 hc0
   have hq := fun w' => run_eql_slice_nil (P := Try.prog) w' 49 120 (some a0) l0.length c0 Try.underlying49
   go_enter Try.func89, Try.ntmps89
   go_wp2_with (first | ((with_reducible refine gate_dst (N := 5) rfl ?_); refine Kd.R_lit k120 _ 120 ?hg (N := 5) ?hd (xs := ([] : List (S120))) (inner := []) (ok := fun _ => True) (okp := fun _ => True) ?hr ?hp (fun _ hk => hk) trivial (Below.refl _ _) (Nat.le_refl _) (by simp) ?_; (case hd => rfl); (case hg => rfl); (case hr => exact z30_); (case hp => exact Reps.none _ _); intro v5 w5 ho5 hb hg_ hnew_; have HO5 := a0_ ho5; have HB5 := a0_ (below_step HB.out hb); clear hg_ hnew_ hb ho5) | ((with_reducible refine gate_builtin (b := .append) (xs := #[.tmp 5, .tmp 6]) rfl ?_); at_builtin; refine Kd.R_append_rows k120 (Rr := k120.K w5) (w0 := w) w.heap.size rfl (.tmp 5) (.tmp 6) 49 120 (.agg #[.int .i64 0, .int .i64 0, .string ⟨#[]⟩]) 32 rfl Try.underlying49 infoWr rfl z8_ z7_ v5 [] l0 _ _ _ (fun _ => True) (fun _ => False) rfl rfl ?aO ?aR ?aK (fun _ h => h.elim) ?aF ?aB ?aS ?aL ?_; (case aO => exact HO5.out); (case aK => exact fun x cs h => z75_); (case aR => exact Kd.C_below HR.out HB5.out); (case aF => exact z32_); (case aB => exact HB5.out); (case aS => exact z33_); (case aL => exact z34_); intro v7 w7 ho7 hb7 hg_ hat_; have HO7 := a0_ ho7; have HB7 := a0_ hb7; clear ho7 hb7 hg_ hat_))
   go_ret
   exact ⟨_, rfl, HO7.out, HB7.out⟩
 ·rw [if_neg c1] at h; cases h
end Go.Proofs.Ytecfndblgefhdaa.R
