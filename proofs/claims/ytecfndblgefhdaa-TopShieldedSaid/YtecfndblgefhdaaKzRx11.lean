import Derived.Test.YtecfndblgefhdaaKzRx5
import Derived.Test.YtecfndblgefhdaaKzRx10
namespace Go.Proofs.Ytecfndblgefhdaa.R
open Go.RowKit Go.Proofs.YtecfndblgefhdaaW.PrintWords Go.Proofs.YtecfndblgefhdaaW.PrintLast Go.Proofs.YtecfndblgefhdaaW.PrintMore
attribute [local go_sem] max2_int min2_int max_two min_two max_three min_three max_four min_four
set_option linter.unusedVariables false
set_option linter.unusedSimpArgs false
def fold_Fold.l0 : Nat → List (S120) → List (S120) → List (S120) → Int → Int → Option ((List (S120)))
 | 0, _, _, _, _, _ => none
 | k + 1, x3, x4, x11, x12, x13 => if x13 < x12 then (if 0 ≤ x13 then (if x13 < (x11.length : Int) then (if (wrap64 (x13 + 1)) < (x3.length : Int) then (if 0 ≤ (wrap64 (x13 + 1)) then ((fold_order.f k ((rd_T120 x11 x13).f0) ((rd_T120 x11 x13).f1) ((rd_T120 x11 x13).f2) ((rd_T120 x3 (wrap64 (x13 + 1))).f0) ((rd_T120 x3 (wrap64 (x13 + 1))).f1) ((rd_T120 x3 (wrap64 (x13 + 1))).f2)).bind fun t207 => (if t207 = 0 then (fold_Fold.l0 k x3 x4 x11 x12 (wrap64 (x13 + 1))) else (if x4.length < 4398046511104 then (fold_Fold.l0 k x3 (x4 ++ [(⟨(rd_T120 x11 x13).f0, (rd_T120 x11 x13).f1, (rd_T120 x11 x13).f2⟩ : S120)]) x11 x12 (wrap64 (x13 + 1))) else (none)))) else (none)) else (if x4.length < 4398046511104 then (fold_Fold.l0 k x3 (x4 ++ [(⟨(rd_T120 x11 x13).f0, (rd_T120 x11 x13).f1, (rd_T120 x11 x13).f2⟩ : S120)]) x11 x12 (wrap64 (x13 + 1))) else (none))) else (none)) else (none)) else (some x4)
def fold_Fold.f (k : Nat) (l0 : List (S120)) : Option ((List (S120))) := (api_Write_89.f l0).bind fun t200 => ((api_Write_92.f k t200 93).bind fun t203 => (fold_Fold.l0 k t203 ([] : List (S120)) t203 (t200.length : Int) 0))
def fold_Fold.T7 : Bool × List (List Nat × List Nat) := (true, [([], []), ([0], [0]), ([], []), ([2], [2]), ([1, 3], [1, 3]), ([4], [4]), ([5], [5]), ([5], [5]), ([5], [5]), ([8, 5], [5, 8]), ([7, 9, 5], [5, 7, 9]), ([10, 5], [5, 10]), ([6, 11, 5, 5], [5, 6, 11]), ([12, 5], [5, 12]), ([5, 13], [5, 13])])
def fold_Fold.B7 : List Nat := [0, 1, 0, 4, 15, 31, 63, 63, 63, 319, 959, 1983, 4095, 8191, 16383]
theorem fold_Fold.tab7 : rtab .any (opsOf Try.f61 7) = fold_Fold.T7 := by kernel_rfl
theorem fold_Fold.bits7 : waitsOk fold_Fold.T7.2 fold_Fold.B7 = true := by kernel_rfl
set_option maxHeartbeats 8000000 in
set_option maxRecDepth 100000 in
theorem fold_Fold.calls (k : Nat) (A0 : Option Addr) (c0 : Nat) (l0 : List (S120)) (r : List (S120)) (w : World) (hr0 : Kd.C k120 w A0 l0.length l0) (hc0 : l0.length ≤ c0) (h : fold_Fold.f k l0 = some r) :
  Calls Try.prog 61 #[.slice A0 l0.length c0] w fun e w' => ∃ v0_ : Value, e = .returned (v0_) ∧ Kd.R k120 120 w' w.heap.size (fun _ => True) v0_ r ∧ Below w.heap.size w w' := by
 have hu120 := Try.underlying120
 have HR0 := a0_ hr0
 have HC0 := a0_ hc0
 clear hr0 hc0
 have HB := a0_ (Below.refl w.heap.size w)
 have H : ((api_Write_89.f l0).bind fun t200 => ((api_Write_92.f k t200 93).bind fun t203 => (fold_Fold.l0 k t203 ([] : List (S120)) t203 (t200.length : Int) 0))) = some r := h
 clear h
 replace H := Option.bind_eq_some_iff.mp H
 obtain ⟨t200, A20, H⟩ := H
 try dsimp only at H
 have A2 := a0_ A20
 clear A20
 replace H := Option.bind_eq_some_iff.mp H
 obtain ⟨t203, A30, H⟩ := H
 try dsimp only at H
 have A3 := a0_ A30
 clear A30
 have H' := a0_ H
 clear H
 go_enter Try.func61, Try.ntmps61
 go_wp2_with (first | ((with_reducible refine gate_callee (f := 89) rfl ?_); refine goesL_ (some 8) rfl rfl Try.func89 z6_ rfl #[.slice A0 l0.length c0] rfl z16_ ?_; (with_reducible refine (api_Write_89.calls _ _ l0 t200 _ ?side1 ?side2 A2.out).mono ?_); (case side1 => exact z94_); (case side2 => exact z20_); rintro e w4 ⟨v201, rfl, ho0, hb⟩; refine ⟨_, rfl, ?_⟩; have HO202 := a0_ (Kd.R_lower ho0 (below_size z3_)); replace HB := a0_ (below_step z3_ hb); (try clear hb); (try clear hb2); (try clear hk); (try clear hi); (try clear ho0); obtain ⟨Ao5, co5, eo5⟩ := Kd.R_slice HO202.out; subst eo5) | ((with_reducible refine gate_callee (f := 92) rfl ?_); refine goesL_ (some 10) rfl rfl Try.func92 z6_ rfl #[.slice Ao5 t200.length co5, .func (.func 93) #[] #[]] rfl z16_ ?_; (with_reducible refine (api_Write_92.calls k (fun k_ => some k_ = (.slice Ao5 t200.length co5 : Value).ownBlock) (.slice Ao5 t200.length co5) t200 93 t203 w _ ?side1 ?side2 A3.out).mono ?_); (case side1 => exact z3_); (case side2 => exact Kd.R_tight rfl HO202.out); rintro e w6 ⟨rfl, hy0, hb, hkp⟩; refine ⟨_, rfl, ?_⟩; replace HO202 := a0_ (Kd.R_reok rfl hy0 (fun k_ e_ => HO202.out.1 k_ e_)); replace HB := a0_ (hb); (try clear hb); (try clear hkp); (try clear hy0)))
 go_loopg [4, 13] k (fun kq v4 v13 w' => ∃ (x4_1 : List (S120)) (x13_1 : Int), v13 = .int .i64 x13_1 ∧ Aside0 (fold_Fold.l0 kq t203 x4_1 t203 (t200.length : Int) x13_1 = some r) ∧ Aside0 (kq ≤ k) ∧ Aside0 (Kd.R k120 120 w' w.heap.size (fun k_ => some k_ ≠ (v4 : Value).ownBlock) (.slice Ao5 t200.length co5) t203) ∧ Aside0 (Kd.R k120 120 w' w.heap.size (fun k_ => some k_ ≠ ((.slice Ao5 t200.length co5) : Value).ownBlock ∧ some k_ ≠ ((.slice Ao5 t200.length co5) : Value).ownBlock) v4 x4_1) ∧ Aside0 (Kd.R k120 120 w' w.heap.size (fun k_ => some k_ ≠ (v4 : Value).ownBlock) (.slice Ao5 t200.length co5) t203) ∧ Aside0 (Below w.heap.size w w'))
 case atStart => exact ⟨(([] : List (S120))), (0), z4_, H', ⟨Nat.le_refl _⟩, ⟨z95_⟩, ⟨z27_⟩, ⟨z95_⟩, ⟨z3_⟩⟩
 case round =>
  clear H'
  obtain ⟨x4_1, x13_1, rfl, HA, HK1, HO_3, HO_4, HO_11, HB⟩ := hrel
  have hl3_1 := (Kd.R_reads' HO_3.out).1
  rw [hl3_1] at HO_3
  (try simp only [hl3_1])
  (try simp only [hl3_1] at HO_4)
  (try simp only [hl3_1] at HO_11)
  have hl11_1 := (Kd.R_reads' HO_11.out).1
  rw [hl11_1] at HO_11
  (try simp only [hl11_1])
  (try simp only [hl11_1] at HO_3)
  (try simp only [hl11_1] at HO_4)
  cases gk with
  | zero => exact absurd HA.out (by simp [fold_Fold.l0])
  | succ k1 =>
   have H := HA.out
   clear HA
   simp only [fold_Fold.l0] at H
   by_cases c7 : x13_1 < (t200.length : Int)
   ·rw [if_pos c7] at H
    have c7b0 : decide (x13_1 < (t200.length : Int)) = true := decide_eq_true c7
    clear c7
    (try (have c7b0x := c7b0; simp only [hl3_1, hl11_1] at c7b0x))
    by_cases c8 : 0 ≤ x13_1
    ·rw [if_pos c8] at H
     have c8b0 : decide (0 ≤ x13_1) = true := decide_eq_true c8
     clear c8
     (try (have c8b0x := c8b0; simp only [hl3_1, hl11_1] at c8b0x))
     by_cases c9 : x13_1 < (t203.length : Int)
     ·rw [if_pos c9] at H
      have c9b0 : decide (x13_1 < (t203.length : Int)) = true := decide_eq_true c9
      clear c9
      (try (have c9b0x := c9b0; simp only [hl3_1, hl11_1] at c9b0x))
      by_cases c10 : (wrap64 (x13_1 + 1)) < (t203.length : Int)
      ·rw [if_pos c10] at H
       have c10b0 : decide ((wrap64 (x13_1 + 1)) < (t203.length : Int)) = true := decide_eq_true c10
       clear c10
       (try (have c10b0x := c10b0; simp only [hl3_1, hl11_1] at c10b0x))
       obtain ⟨ji11, hji11⟩ : ∃ j_ : Int, (wrap64 (x13_1 + 1)) = j_ := ⟨_, rfl⟩
       replace H : (if 0 ≤ (ji11) then ((fold_order.f k1 ((rd_T120 t203 x13_1).f0) ((rd_T120 t203 x13_1).f1) ((rd_T120 t203 x13_1).f2) ((rd_T120 t203 (ji11)).f0) ((rd_T120 t203 (ji11)).f1) ((rd_T120 t203 (ji11)).f2)).bind fun t207 => (if t207 = 0 then (fold_Fold.l0 k1 t203 x4_1 t203 (t200.length : Int) ji11) else (if x4_1.length < 4398046511104 then (fold_Fold.l0 k1 t203 (x4_1 ++ [(⟨(rd_T120 t203 x13_1).f0, (rd_T120 t203 x13_1).f1, (rd_T120 t203 x13_1).f2⟩ : S120)]) t203 (t200.length : Int) ji11) else (none)))) else (none)) = some r := by first | (rw [hji11] at H; exact H) | (simp only [hji11] at H ⊢; exact H)
       (try rw [hji11] at c10b0)
       have hji11w : (IntKind.i64.wrap (x13_1 + 1)) = ji11 := (i64_w _).trans hji11
       by_cases c12 : 0 ≤ (ji11)
       ·rw [if_pos c12] at H
        have c12b0 : decide (0 ≤ (ji11)) = true := decide_eq_true c12
        clear c12
        (try (have c12b0x := c12b0; simp only [hl3_1, hl11_1] at c12b0x))
        replace H := Option.bind_eq_some_iff.mp H
        obtain ⟨t207, A130, H⟩ := H
        try dsimp only at H
        have A13 := a0_ A130
        clear A130
        by_cases c14 : t207 = 0
        ·rw [if_pos c14] at H
         have c14b0 : (t207 == 0) = true := beq_iff_eq.mpr c14
         have c14b1 : (t207 != 0) = false := bne_eq_false_iff_eq.mpr c14
         clear c14
         (try (have c14b0x := c14b0; simp only [hl3_1, hl11_1] at c14b0x))
         (try (have c14b1x := c14b1; simp only [hl3_1, hl11_1] at c14b1x))
         have H' := a0_ H
         clear H
         have p204 : 0 ≤ (x13_1 : Int) := of_decide_eq_true z10_
         have q204 : x13_1 < (t203.length : Int) := of_decide_eq_true z10_
         obtain ⟨ad204, e204, hx204_0, hx204_1, hx204_2⟩ := at_T120 (Kd.R_reads' HO_11.out).2.2 x13_1 p204 q204
         cases e204
         replace p204 := eq_true p204
         replace q204 := eq_true q204
         try go_wp2_with (first | ((with_reducible refine gate_dst (N := 6) rfl ?_); refine box_event ?hg (N := 6) ?hd (cs := #[.int .i64 0, .int .i64 0, .string (⟨#[]⟩ : ByteArray)]) (t := 120) ?hr ?_; (case hd => rfl); (case hg => rfl); (case hr => exact z11_); intro gb205 hg w15 hbox hb; have n0_ := a0_ (Kd.R_below (Kd.R_elderB z96_ gb205 (Nat.le_of_eq hg.symm)) hb); have n1_ := a0_ (Kd.R_below (Kd.R_elderB z97_ gb205 (Nat.le_of_eq hg.symm)) hb); have n2_ := a0_ (Kd.R_below (Kd.R_elderB z98_ gb205 (Nat.le_of_eq hg.symm)) hb); have n3_ := a0_ (below_step z3_ hb); have n4_ := a0_ (hbox); have n5_ := a0_ ((z12_ : w.heap.size ≤ gb205)); have n6_ := a0_ ((z12_ : w.heap.size ≤ gb205)); clear HO_3; clear HO_4; clear HO_11; clear HB; have HO_3 := n0_; have HO_4 := n1_; have HO_11 := n2_; have HB := n3_; have BK205 := n4_; have GW205 := n5_; have GE205 := n6_; clear n0_ n1_ n2_ n3_ n4_ n5_ n6_; clear hb hbox hg; have hcz16_0 : w15.cell? ⟨gb205, 0, none⟩ = some (.int .i64 0) := (blk_cell BK205.out 0).trans rfl; have hcz16_1 : w15.cell? ⟨gb205, 1, none⟩ = some (.int .i64 0) := (blk_cell BK205.out 1).trans rfl; have hcz16_2 : w15.cell? ⟨gb205, 2, none⟩ = some (.string (⟨#[]⟩ : ByteArray)) := (blk_cell BK205.out 2).trans rfl; obtain ⟨hfz16_0, hfz16_1, hfz16_2⟩ := bf3_ BK205.out))
         have n0_ : Aside0 (Kd.R k120 120 (((w15.setCell ⟨gb205, 0, none⟩ (.int .i64 ((rd_T120 t203 x13_1).f0))).setCell ⟨gb205, 1, none⟩ (.int .i64 ((rd_T120 t203 x13_1).f1))).setCell ⟨gb205, 2, none⟩ (.string ((rd_T120 t203 x13_1).f2))) w.heap.size (fun k_ => some k_ ≠ (u4 : Value).ownBlock ∧ k_ ≠ gb205) (.slice (some ad204) t203.length co5) t203) := ⟨z99_⟩
         have n1_ : Aside0 (Kd.R k120 120 (((w15.setCell ⟨gb205, 0, none⟩ (.int .i64 ((rd_T120 t203 x13_1).f0))).setCell ⟨gb205, 1, none⟩ (.int .i64 ((rd_T120 t203 x13_1).f1))).setCell ⟨gb205, 2, none⟩ (.string ((rd_T120 t203 x13_1).f2))) w.heap.size (fun k_ => some k_ ≠ (.slice (some ad204) t203.length co5 : Value).ownBlock ∧ some k_ ≠ (.slice (some ad204) t203.length co5 : Value).ownBlock ∧ k_ ≠ gb205) u4 x4_1) := ⟨z100_⟩
         have n2_ : Aside0 (Kd.R k120 120 (((w15.setCell ⟨gb205, 0, none⟩ (.int .i64 ((rd_T120 t203 x13_1).f0))).setCell ⟨gb205, 1, none⟩ (.int .i64 ((rd_T120 t203 x13_1).f1))).setCell ⟨gb205, 2, none⟩ (.string ((rd_T120 t203 x13_1).f2))) w.heap.size (fun k_ => some k_ ≠ (u4 : Value).ownBlock ∧ k_ ≠ gb205) (.slice (some ad204) t203.length co5) t203) := ⟨z101_⟩
         have n3_ : Aside0 ((((w15.setCell ⟨gb205, 0, none⟩ (.int .i64 ((rd_T120 t203 x13_1).f0))).setCell ⟨gb205, 1, none⟩ (.int .i64 ((rd_T120 t203 x13_1).f1))).setCell ⟨gb205, 2, none⟩ (.string ((rd_T120 t203 x13_1).f2))).heap[gb205]? = some (.cells #[.int .i64 ((rd_T120 t203 x13_1).f0), .int .i64 ((rd_T120 t203 x13_1).f1), .string ((rd_T120 t203 x13_1).f2)] 120 (0, 0))) := ⟨z102_⟩
         have n4_ : Aside0 (Below w.heap.size w (((w15.setCell ⟨gb205, 0, none⟩ (.int .i64 ((rd_T120 t203 x13_1).f0))).setCell ⟨gb205, 1, none⟩ (.int .i64 ((rd_T120 t203 x13_1).f1))).setCell ⟨gb205, 2, none⟩ (.string ((rd_T120 t203 x13_1).f2)))) := ⟨z103_⟩
         (try clear HO_3)
         (try clear HO_4)
         (try clear HO_11)
         (try clear BK205)
         (try clear HB)
         generalize (((w15.setCell ⟨gb205, 0, none⟩ (.int .i64 ((rd_T120 t203 x13_1).f0))).setCell ⟨gb205, 1, none⟩ (.int .i64 ((rd_T120 t203 x13_1).f1))).setCell ⟨gb205, 2, none⟩ (.string ((rd_T120 t203 x13_1).f2))) = w17 at n0_ n1_ n2_ n3_ n4_ ⊢
         have HO_3 := n0_
         have HO_4 := n1_
         have HO_11 := n2_
         have BK205 := n3_
         have HB := n4_
         clear n0_ n1_ n2_ n3_ n4_
         have n0_ := a0_ (Kd.R_drew HO_3.out)
         have n1_ := a0_ (Kd.R_drew HO_4.out)
         have n2_ := a0_ (Kd.R_drew HO_11.out)
         have n3_ := a0_ (blk_drew BK205.out)
         have n4_ := a0_ (below_drew1 HB.out)
         clear HO_3
         clear HO_4
         clear HO_11
         clear BK205
         clear HB
         have HO_3 := n0_
         have HO_4 := n1_
         have HO_11 := n2_
         have BK205 := n3_
         have HB := n4_
         clear n0_ n1_ n2_ n3_ n4_
         have p206 : 0 ≤ ((ji11) : Int) := of_decide_eq_true z10_
         have q206 : (ji11) < (t203.length : Int) := of_decide_eq_true z10_
         obtain ⟨ad206, e206, hx206_0, hx206_1, hx206_2⟩ := at_T120 (Kd.R_reads' HO_3.out).2.2 (ji11) p206 q206
         obtain rfl : ad204 = ad206 := (by injection e206)
         replace p206 := eq_true p206
         replace q206 := eq_true q206
         refine st_ 15 (S := fun w' => w'.cell? ⟨gb205, 0, none⟩ = some (.int .i64 ((rd_T120 t203 x13_1).f0)) ∧ w'.cell? ⟨gb205, 1, none⟩ = some (.int .i64 ((rd_T120 t203 x13_1).f1)) ∧ w'.cell? ⟨gb205, 2, none⟩ = some (.string ((rd_T120 t203 x13_1).f2)) ∧ w'.cell? (ad204.add (((ji11)).toNat * 3)) = some (.int .i64 ((rd_T120 t203 (ji11)).f0)) ∧ w'.cell? ⟨(ad204.add (((ji11)).toNat * 3)).block, (ad204.add (((ji11)).toNat * 3)).off + 1, none⟩ = some (.int .i64 ((rd_T120 t203 (ji11)).f1)) ∧ w'.cell? ⟨(ad204.add (((ji11)).toNat * 3)).block, (ad204.add (((ji11)).toNat * 3)).off + 2, none⟩ = some (.string ((rd_T120 t203 (ji11)).f2))) (ds := []) ⟨(blk_cell BK205.out 0).trans rfl, (blk_cell BK205.out 1).trans rfl, (blk_cell BK205.out 2).trans rfl, hx206_0, hx206_1, hx206_2⟩ (fun hHeld => ?_); refine with_tabW fold_Fold.tab7 fold_Fold.bits7 (fun HT_ HW_ => ?_)
         generalize w17.drew = w18 at HO_3 HO_4 HO_11 BK205 HB hx206_0 hx206_1 hx206_2 hHeld ⊢
         refine pq_ 0 (some 18) rfl rfl ?_
         refine pq_ 1 (some 19) rfl rfl ?_
         refine pq_ 2 (some 20) rfl rfl ?_
         refine pq_ 3 (some 21) rfl rfl ?_
         refine pq_ 4 (some 22) rfl rfl ?_
         refine pq_ 5 (some 23) rfl rfl ?_
         refine pq_ 7 (some 25) rfl rfl ?_
         refine pq_ 8 (some 26) rfl rfl ?_
         refine pq_ 9 (some 27) rfl rfl ?_
         refine pq_ 10 (some 28) rfl rfl ?_
         refine tq_ 6 (some 24) rfl rfl hHeld ?_
         refine tq_ 11 (some 29) rfl rfl hHeld ?_
         refine oq_ 12 (some 30) rfl rfl (fun K hK => ?_)
         refine goes_ Try.func93 z6_ rfl #[.agg #[.int .i64 ((rd_T120 t203 x13_1).f0), .int .i64 ((rd_T120 t203 x13_1).f1), .string ((rd_T120 t203 x13_1).f2)], .agg #[.int .i64 ((rd_T120 t203 (ji11)).f0), .int .i64 ((rd_T120 t203 (ji11)).f1), .string ((rd_T120 t203 (ji11)).f2)]] (by rfl) rfl rfl z104_ ?_
         with_reducible refine (fold_order.calls k1 ((rd_T120 t203 x13_1).f0) ((rd_T120 t203 x13_1).f1) ((rd_T120 t203 x13_1).f2) ((rd_T120 t203 (ji11)).f0) ((rd_T120 t203 (ji11)).f1) ((rd_T120 t203 (ji11)).f2) t207 _ A13.out).mono ?_
         rintro e w19 ⟨rfl, hb⟩
         have HS3_ := (hb.cell (World.block_lt_of_cell? _ _ (hHeld.2.2.2.1))).trans (hHeld.2.2.2.1)
         have HS4_ := (hb.cell (World.block_lt_of_cell? _ _ (hHeld.2.2.2.2.1))).trans (hHeld.2.2.2.2.1)
         have HS5_ := (hb.cell (World.block_lt_of_cell? _ _ (hHeld.2.2.2.2.2))).trans (hHeld.2.2.2.2.2)
         refine ⟨_, rfl, ?_⟩
         have n0_ := a0_ (Kd.R_below z96_ hb)
         have n1_ := a0_ (Kd.R_below z97_ hb)
         have n2_ := a0_ (Kd.R_below z98_ hb)
         have n3_ := a0_ (blk_below z105_ hb)
         have n4_ := a0_ (below_step z103_ hb)
         clear HO_3
         clear HO_4
         clear HO_11
         clear BK205
         clear HB
         have HO_3 := n0_
         have HO_4 := n1_
         have HO_11 := n2_
         have BK205 := n3_
         have HB := n4_
         clear n0_ n1_ n2_ n3_ n4_
         (try clear hb)
         (try clear hb2)
         (try clear hk)
         (try clear hi)
         refine hK.out _ _ z106_ (fun hHeld => ?_)
         clear hK K
         refine norm_ (a' := ?_) ?_ ?_
         rotate_left
         ·show Act.put _ (some 30) _ = _
          exact put_
         refine pq_ 13 (some 31) rfl rfl ?_
         refine pq_ 14 (some 32) rfl rfl ?_
         refine done_ (done_of HT_.out z6_) ?_
         try go_wp2
         (try simp only [← hl3_1])
         go_roundg k1
         case measure => have := HK1.out; omega
         case rel => exact ⟨(x4_1), (ji11), z107_, H', ⟨z39_⟩, ⟨by (try simp only [hl3_1]); (try simp only [hl11_1]); (with_reducible repeat (first | apply Kd.R_alloc | apply Kd.R_drewN | apply Kd.R_drew)); exact Kd.R_mono HO_3.out (fun _ hk => hk.1)⟩, ⟨by (try simp only [hl3_1]); (try simp only [hl11_1]); (with_reducible repeat (first | apply Kd.R_alloc | apply Kd.R_drewN | apply Kd.R_drew)); exact Kd.R_mono HO_4.out (fun _ hk => ⟨hk.1, hk.2.1⟩)⟩, ⟨by (try simp only [hl3_1]); (try simp only [hl11_1]); (with_reducible repeat (first | apply Kd.R_alloc | apply Kd.R_drewN | apply Kd.R_drew)); exact Kd.R_mono HO_11.out (fun _ hk => hk.1)⟩, ⟨z103_⟩⟩
        ·rw [if_neg c14] at H
         have c14b0 : (t207 == 0) = false := beq_eq_false_iff_ne.mpr c14
         have c14b1 : (t207 != 0) = true := bne_iff_ne.mpr c14
         (try (have c14b0x := c14b0; simp only [hl3_1, hl11_1] at c14b0x))
         (try (have c14b1x := c14b1; simp only [hl3_1, hl11_1] at c14b1x))
         by_cases c20 : x4_1.length < 4398046511104
         ·rw [if_pos c20] at H
          have LMc20 := a0_ c20
          clear c20
          obtain ⟨y208, hy208⟩ : ∃ y_ : List (S120), y_ = (x4_1 ++ [(⟨(rd_T120 t203 x13_1).f0, (rd_T120 t203 x13_1).f1, (rd_T120 t203 x13_1).f2⟩ : S120)]) := ⟨_, rfl⟩
          replace H : (fold_Fold.l0 k1 t203 y208 t203 (t200.length : Int) ji11) = some r := by first | (rw [hy208]; with_reducible exact H) | (have H2_ := (Option.bind_some _ _).symm.trans H; rw [hy208]; with_reducible exact H2_) | (have H2_ := (Option.bind_some _ _).symm.trans H; with_reducible exact H2_) | with_reducible exact H | (rw [hy208]; exact H) | exact H
          have Ny208 := a0_ hy208
          clear hy208
          have H' := a0_ H
          clear H
          have p204 : 0 ≤ (x13_1 : Int) := of_decide_eq_true z10_
          have q204 : x13_1 < (t203.length : Int) := of_decide_eq_true z10_
          obtain ⟨ad204, e204, hx204_0, hx204_1, hx204_2⟩ := at_T120 (Kd.R_reads' HO_11.out).2.2 x13_1 p204 q204
          cases e204
          replace p204 := eq_true p204
          replace q204 := eq_true q204
          try go_wp2_with (first | ((with_reducible refine gate_dst (N := 6) rfl ?_); refine box_event ?hg (N := 6) ?hd (cs := #[.int .i64 0, .int .i64 0, .string (⟨#[]⟩ : ByteArray)]) (t := 120) ?hr ?_; (case hd => rfl); (case hg => rfl); (case hr => exact z11_); intro gb205 hg w21 hbox hb; have n0_ := a0_ (Kd.R_below (Kd.R_elderB z96_ gb205 (Nat.le_of_eq hg.symm)) hb); have n1_ := a0_ (Kd.R_below (Kd.R_elderB z97_ gb205 (Nat.le_of_eq hg.symm)) hb); have n2_ := a0_ (Kd.R_below (Kd.R_elderB z98_ gb205 (Nat.le_of_eq hg.symm)) hb); have n3_ := a0_ (below_step z3_ hb); have n4_ := a0_ (hbox); have n5_ := a0_ ((z12_ : w.heap.size ≤ gb205)); have n6_ := a0_ ((z12_ : w.heap.size ≤ gb205)); clear HO_3; clear HO_4; clear HO_11; clear HB; have HO_3 := n0_; have HO_4 := n1_; have HO_11 := n2_; have HB := n3_; have BK205 := n4_; have GW205 := n5_; have GE205 := n6_; clear n0_ n1_ n2_ n3_ n4_ n5_ n6_; clear hb hbox hg; have hcz22_0 : w21.cell? ⟨gb205, 0, none⟩ = some (.int .i64 0) := (blk_cell BK205.out 0).trans rfl; have hcz22_1 : w21.cell? ⟨gb205, 1, none⟩ = some (.int .i64 0) := (blk_cell BK205.out 1).trans rfl; have hcz22_2 : w21.cell? ⟨gb205, 2, none⟩ = some (.string (⟨#[]⟩ : ByteArray)) := (blk_cell BK205.out 2).trans rfl; obtain ⟨hfz22_0, hfz22_1, hfz22_2⟩ := bf3_ BK205.out))
          have n0_ : Aside0 (Kd.R k120 120 (((w21.setCell ⟨gb205, 0, none⟩ (.int .i64 ((rd_T120 t203 x13_1).f0))).setCell ⟨gb205, 1, none⟩ (.int .i64 ((rd_T120 t203 x13_1).f1))).setCell ⟨gb205, 2, none⟩ (.string ((rd_T120 t203 x13_1).f2))) w.heap.size (fun k_ => some k_ ≠ (u4 : Value).ownBlock ∧ k_ ≠ gb205) (.slice (some ad204) t203.length co5) t203) := ⟨z99_⟩
          have n1_ : Aside0 (Kd.R k120 120 (((w21.setCell ⟨gb205, 0, none⟩ (.int .i64 ((rd_T120 t203 x13_1).f0))).setCell ⟨gb205, 1, none⟩ (.int .i64 ((rd_T120 t203 x13_1).f1))).setCell ⟨gb205, 2, none⟩ (.string ((rd_T120 t203 x13_1).f2))) w.heap.size (fun k_ => some k_ ≠ (.slice (some ad204) t203.length co5 : Value).ownBlock ∧ some k_ ≠ (.slice (some ad204) t203.length co5 : Value).ownBlock ∧ k_ ≠ gb205) u4 x4_1) := ⟨z100_⟩
          have n2_ : Aside0 (Kd.R k120 120 (((w21.setCell ⟨gb205, 0, none⟩ (.int .i64 ((rd_T120 t203 x13_1).f0))).setCell ⟨gb205, 1, none⟩ (.int .i64 ((rd_T120 t203 x13_1).f1))).setCell ⟨gb205, 2, none⟩ (.string ((rd_T120 t203 x13_1).f2))) w.heap.size (fun k_ => some k_ ≠ (u4 : Value).ownBlock ∧ k_ ≠ gb205) (.slice (some ad204) t203.length co5) t203) := ⟨z101_⟩
          have n3_ : Aside0 ((((w21.setCell ⟨gb205, 0, none⟩ (.int .i64 ((rd_T120 t203 x13_1).f0))).setCell ⟨gb205, 1, none⟩ (.int .i64 ((rd_T120 t203 x13_1).f1))).setCell ⟨gb205, 2, none⟩ (.string ((rd_T120 t203 x13_1).f2))).heap[gb205]? = some (.cells #[.int .i64 ((rd_T120 t203 x13_1).f0), .int .i64 ((rd_T120 t203 x13_1).f1), .string ((rd_T120 t203 x13_1).f2)] 120 (0, 0))) := ⟨z102_⟩
          have n4_ : Aside0 (Below w.heap.size w (((w21.setCell ⟨gb205, 0, none⟩ (.int .i64 ((rd_T120 t203 x13_1).f0))).setCell ⟨gb205, 1, none⟩ (.int .i64 ((rd_T120 t203 x13_1).f1))).setCell ⟨gb205, 2, none⟩ (.string ((rd_T120 t203 x13_1).f2)))) := ⟨z103_⟩
          (try clear HO_3)
          (try clear HO_4)
          (try clear HO_11)
          (try clear BK205)
          (try clear HB)
          generalize (((w21.setCell ⟨gb205, 0, none⟩ (.int .i64 ((rd_T120 t203 x13_1).f0))).setCell ⟨gb205, 1, none⟩ (.int .i64 ((rd_T120 t203 x13_1).f1))).setCell ⟨gb205, 2, none⟩ (.string ((rd_T120 t203 x13_1).f2))) = w23 at n0_ n1_ n2_ n3_ n4_ ⊢
          have HO_3 := n0_
          have HO_4 := n1_
          have HO_11 := n2_
          have BK205 := n3_
          have HB := n4_
          clear n0_ n1_ n2_ n3_ n4_
          have n0_ := a0_ (Kd.R_drew HO_3.out)
          have n1_ := a0_ (Kd.R_drew HO_4.out)
          have n2_ := a0_ (Kd.R_drew HO_11.out)
          have n3_ := a0_ (blk_drew BK205.out)
          have n4_ := a0_ (below_drew1 HB.out)
          clear HO_3
          clear HO_4
          clear HO_11
          clear BK205
          clear HB
          have HO_3 := n0_
          have HO_4 := n1_
          have HO_11 := n2_
          have BK205 := n3_
          have HB := n4_
          clear n0_ n1_ n2_ n3_ n4_
          have p206 : 0 ≤ ((ji11) : Int) := of_decide_eq_true z10_
          have q206 : (ji11) < (t203.length : Int) := of_decide_eq_true z10_
          obtain ⟨ad206, e206, hx206_0, hx206_1, hx206_2⟩ := at_T120 (Kd.R_reads' HO_3.out).2.2 (ji11) p206 q206
          obtain rfl : ad204 = ad206 := (by injection e206)
          replace p206 := eq_true p206
          replace q206 := eq_true q206
          refine st_ 15 (S := fun w' => w'.cell? ⟨gb205, 0, none⟩ = some (.int .i64 ((rd_T120 t203 x13_1).f0)) ∧ w'.cell? ⟨gb205, 1, none⟩ = some (.int .i64 ((rd_T120 t203 x13_1).f1)) ∧ w'.cell? ⟨gb205, 2, none⟩ = some (.string ((rd_T120 t203 x13_1).f2)) ∧ w'.cell? (ad204.add (((ji11)).toNat * 3)) = some (.int .i64 ((rd_T120 t203 (ji11)).f0)) ∧ w'.cell? ⟨(ad204.add (((ji11)).toNat * 3)).block, (ad204.add (((ji11)).toNat * 3)).off + 1, none⟩ = some (.int .i64 ((rd_T120 t203 (ji11)).f1)) ∧ w'.cell? ⟨(ad204.add (((ji11)).toNat * 3)).block, (ad204.add (((ji11)).toNat * 3)).off + 2, none⟩ = some (.string ((rd_T120 t203 (ji11)).f2))) (ds := []) ⟨(blk_cell BK205.out 0).trans rfl, (blk_cell BK205.out 1).trans rfl, (blk_cell BK205.out 2).trans rfl, hx206_0, hx206_1, hx206_2⟩ (fun hHeld => ?_); refine with_tabW fold_Fold.tab7 fold_Fold.bits7 (fun HT_ HW_ => ?_)
          generalize w23.drew = w24 at HO_3 HO_4 HO_11 BK205 HB hx206_0 hx206_1 hx206_2 hHeld ⊢
          refine pq_ 0 (some 18) rfl rfl ?_
          refine pq_ 1 (some 19) rfl rfl ?_
          refine pq_ 2 (some 20) rfl rfl ?_
          refine pq_ 3 (some 21) rfl rfl ?_
          refine pq_ 4 (some 22) rfl rfl ?_
          refine pq_ 5 (some 23) rfl rfl ?_
          refine pq_ 7 (some 25) rfl rfl ?_
          refine pq_ 8 (some 26) rfl rfl ?_
          refine pq_ 9 (some 27) rfl rfl ?_
          refine pq_ 10 (some 28) rfl rfl ?_
          refine tq_ 6 (some 24) rfl rfl hHeld ?_
          refine tq_ 11 (some 29) rfl rfl hHeld ?_
          refine oq_ 12 (some 30) rfl rfl (fun K hK => ?_)
          refine goes_ Try.func93 z6_ rfl #[.agg #[.int .i64 ((rd_T120 t203 x13_1).f0), .int .i64 ((rd_T120 t203 x13_1).f1), .string ((rd_T120 t203 x13_1).f2)], .agg #[.int .i64 ((rd_T120 t203 (ji11)).f0), .int .i64 ((rd_T120 t203 (ji11)).f1), .string ((rd_T120 t203 (ji11)).f2)]] (by rfl) rfl rfl z104_ ?_
          with_reducible refine (fold_order.calls k1 ((rd_T120 t203 x13_1).f0) ((rd_T120 t203 x13_1).f1) ((rd_T120 t203 x13_1).f2) ((rd_T120 t203 (ji11)).f0) ((rd_T120 t203 (ji11)).f1) ((rd_T120 t203 (ji11)).f2) t207 _ A13.out).mono ?_
          rintro e w25 ⟨rfl, hb⟩
          have HS3_ := (hb.cell (World.block_lt_of_cell? _ _ (hHeld.2.2.2.1))).trans (hHeld.2.2.2.1)
          have HS4_ := (hb.cell (World.block_lt_of_cell? _ _ (hHeld.2.2.2.2.1))).trans (hHeld.2.2.2.2.1)
          have HS5_ := (hb.cell (World.block_lt_of_cell? _ _ (hHeld.2.2.2.2.2))).trans (hHeld.2.2.2.2.2)
          refine ⟨_, rfl, ?_⟩
          have n0_ := a0_ (Kd.R_below z96_ hb)
          have n1_ := a0_ (Kd.R_below z97_ hb)
          have n2_ := a0_ (Kd.R_below z98_ hb)
          have n3_ := a0_ (blk_below z105_ hb)
          have n4_ := a0_ (below_step z103_ hb)
          clear HO_3
          clear HO_4
          clear HO_11
          clear BK205
          clear HB
          have HO_3 := n0_
          have HO_4 := n1_
          have HO_11 := n2_
          have BK205 := n3_
          have HB := n4_
          clear n0_ n1_ n2_ n3_ n4_
          (try clear hb)
          (try clear hb2)
          (try clear hk)
          (try clear hi)
          refine hK.out _ _ z106_ (fun hHeld => ?_)
          clear hK K
          refine norm_ (a' := ?_) ?_ ?_
          rotate_left
          ·show Act.put _ (some 30) _ = _
           exact put_
          refine pq_ 13 (some 31) rfl rfl ?_
          refine pq_ 14 (some 32) rfl rfl ?_
          refine done_ (done_of HT_.out z6_) ?_
          have hcz26_0 : w25.cell? ⟨gb205, 0, none⟩ = some (.int .i64 ((rd_T120 t203 x13_1).f0)) := (blk_cell BK205.out 0).trans rfl
          have hcz26_1 : w25.cell? ⟨gb205, 1, none⟩ = some (.int .i64 ((rd_T120 t203 x13_1).f1)) := (blk_cell BK205.out 1).trans rfl
          have hcz26_2 : w25.cell? ⟨gb205, 2, none⟩ = some (.string ((rd_T120 t203 x13_1).f2)) := (blk_cell BK205.out 2).trans rfl
          obtain ⟨hfz26_0, hfz26_1, hfz26_2⟩ := bf3_ BK205.out
          try go_wp2_with (first | ((with_reducible refine gate_builtin (b := .append) (xs := #[.tmp 33, .tmp 35]) rfl ?_); at_builtin; refine Kd.R_append k120 (w0 := w) w.heap.size rfl (.tmp 33) (.tmp 35) 49 120 (.agg #[(.int .i64 0), (.int .i64 0), (.string ⟨#[]⟩)]) 32 rfl Try.underlying49 info120 rfl z8_ z7_ u4 x4_1 (⟨(rd_T120 t203 x13_1).f0, (rd_T120 t203 x13_1).f1, (rd_T120 t203 x13_1).f2⟩ : S120) [.int .i64 ((rd_T120 t203 x13_1).f0), .int .i64 ((rd_T120 t203 x13_1).f1), .string ((rd_T120 t203 x13_1).f2)] (fun k_ => some k_ ≠ (.slice (some ad204) t203.length co5 : Value).ownBlock ∧ some k_ ≠ (.slice (some ad204) t203.length co5 : Value).ownBlock ∧ k_ ≠ gb205) (fun _ => False) rfl rfl ?aP (fun _ hk => hk.elim) ?aF ?aO ?aB ?aS ?aL ?_; (case aP => exact z108_); (case aB => exact z109_); (case aF => exact z110_); (case aO => exact z111_); (case aS => exact z112_); (case aL => have := LMc20.out; omega); intro v209 w27 ho hb hg hat; rw [← Ny208.out] at ho; have n0_ := a0_ (Kd.R_after (ok := (fun k_ => k_ ≠ gb205)) z113_ hg hat); have n1_ := a0_ (Kd.R_after (ok := (fun k_ => k_ ≠ gb205)) z114_ hg hat); have n2_ := a0_ (blk_grown (g := gb205) (o := .cells #[.int .i64 ((rd_T120 t203 x13_1).f0), .int .i64 ((rd_T120 t203 x13_1).f1), .string ((rd_T120 t203 x13_1).f2)] 120 (0, 0)) z105_ hg (Kd.R_away HO_4.out (fun _ hk => hk.2.2))); have n3_ := a0_ (hb); have n4_ := a0_ (ho); clear HO_3; clear HO_11; clear BK205; clear HB; clear HO_4; have HO_3 := n0_; have HO_11 := n1_; have BK205 := n2_; have HB := n3_; have HO210 := n4_; clear n0_ n1_ n2_ n3_ n4_; clear ho hb hg hat))
          (try simp only [← hl3_1])
          go_roundg k1
          case measure => have := HK1.out; omega
          case rel => exact ⟨(y208), (ji11), z107_, H', ⟨z39_⟩, ⟨z115_⟩, ⟨by (try simp only [hl3_1]); (try simp only [hl11_1]); (with_reducible repeat (first | apply Kd.R_alloc | apply Kd.R_drewN | apply Kd.R_drew)); exact Kd.R_mono HO210.out (fun _ hk => ⟨hk.1, hk.2.1⟩)⟩, ⟨z116_⟩, ⟨z103_⟩⟩
         ·rw [if_neg c20] at H
          exact absurd H (by simp)
       ·rw [if_neg c12] at H
        exact absurd H (by simp)
      ·rw [if_neg c10] at H
       have c10b0 : decide ((wrap64 (x13_1 + 1)) < (t203.length : Int)) = false := decide_eq_false c10
       clear c10
       (try (have c10b0x := c10b0; simp only [hl3_1, hl11_1] at c10b0x))
       by_cases c28 : x4_1.length < 4398046511104
       ·rw [if_pos c28] at H
        have LMc28 := a0_ c28
        clear c28
        obtain ⟨y211, hy211⟩ : ∃ y_ : List (S120), y_ = (x4_1 ++ [(⟨(rd_T120 t203 x13_1).f0, (rd_T120 t203 x13_1).f1, (rd_T120 t203 x13_1).f2⟩ : S120)]) := ⟨_, rfl⟩
        replace H : (fold_Fold.l0 k1 t203 y211 t203 (t200.length : Int) (wrap64 (x13_1 + 1))) = some r := by first | (rw [hy211]; with_reducible exact H) | (have H2_ := (Option.bind_some _ _).symm.trans H; rw [hy211]; with_reducible exact H2_) | (have H2_ := (Option.bind_some _ _).symm.trans H; with_reducible exact H2_) | with_reducible exact H | (rw [hy211]; exact H) | exact H
        have Ny211 := a0_ hy211
        clear hy211
        have H' := a0_ H
        clear H
        have p204 : 0 ≤ (x13_1 : Int) := of_decide_eq_true z10_
        have q204 : x13_1 < (t203.length : Int) := of_decide_eq_true z10_
        obtain ⟨ad204, e204, hx204_0, hx204_1, hx204_2⟩ := at_T120 (Kd.R_reads' HO_11.out).2.2 x13_1 p204 q204
        cases e204
        replace p204 := eq_true p204
        replace q204 := eq_true q204
        try go_wp2_with (first | ((with_reducible refine gate_dst (N := 6) rfl ?_); refine box_event ?hg (N := 6) ?hd (cs := #[.int .i64 0, .int .i64 0, .string (⟨#[]⟩ : ByteArray)]) (t := 120) ?hr ?_; (case hd => rfl); (case hg => rfl); (case hr => exact z11_); intro gb205 hg w29 hbox hb; have n0_ := a0_ (Kd.R_below (Kd.R_elderB z96_ gb205 (Nat.le_of_eq hg.symm)) hb); have n1_ := a0_ (Kd.R_below (Kd.R_elderB z97_ gb205 (Nat.le_of_eq hg.symm)) hb); have n2_ := a0_ (Kd.R_below (Kd.R_elderB z98_ gb205 (Nat.le_of_eq hg.symm)) hb); have n3_ := a0_ (below_step z3_ hb); have n4_ := a0_ (hbox); have n5_ := a0_ ((z12_ : w.heap.size ≤ gb205)); have n6_ := a0_ ((z12_ : w.heap.size ≤ gb205)); clear HO_3; clear HO_4; clear HO_11; clear HB; have HO_3 := n0_; have HO_4 := n1_; have HO_11 := n2_; have HB := n3_; have BK205 := n4_; have GW205 := n5_; have GE205 := n6_; clear n0_ n1_ n2_ n3_ n4_ n5_ n6_; clear hb hbox hg; have hcz30_0 : w29.cell? ⟨gb205, 0, none⟩ = some (.int .i64 0) := (blk_cell BK205.out 0).trans rfl; have hcz30_1 : w29.cell? ⟨gb205, 1, none⟩ = some (.int .i64 0) := (blk_cell BK205.out 1).trans rfl; have hcz30_2 : w29.cell? ⟨gb205, 2, none⟩ = some (.string (⟨#[]⟩ : ByteArray)) := (blk_cell BK205.out 2).trans rfl; obtain ⟨hfz30_0, hfz30_1, hfz30_2⟩ := bf3_ BK205.out))
        have n0_ : Aside0 (Kd.R k120 120 (((w29.setCell ⟨gb205, 0, none⟩ (.int .i64 ((rd_T120 t203 x13_1).f0))).setCell ⟨gb205, 1, none⟩ (.int .i64 ((rd_T120 t203 x13_1).f1))).setCell ⟨gb205, 2, none⟩ (.string ((rd_T120 t203 x13_1).f2))) w.heap.size (fun k_ => some k_ ≠ (u4 : Value).ownBlock ∧ k_ ≠ gb205) (.slice (some ad204) t203.length co5) t203) := ⟨z99_⟩
        have n1_ : Aside0 (Kd.R k120 120 (((w29.setCell ⟨gb205, 0, none⟩ (.int .i64 ((rd_T120 t203 x13_1).f0))).setCell ⟨gb205, 1, none⟩ (.int .i64 ((rd_T120 t203 x13_1).f1))).setCell ⟨gb205, 2, none⟩ (.string ((rd_T120 t203 x13_1).f2))) w.heap.size (fun k_ => some k_ ≠ (.slice (some ad204) t203.length co5 : Value).ownBlock ∧ some k_ ≠ (.slice (some ad204) t203.length co5 : Value).ownBlock ∧ k_ ≠ gb205) u4 x4_1) := ⟨z100_⟩
        have n2_ : Aside0 (Kd.R k120 120 (((w29.setCell ⟨gb205, 0, none⟩ (.int .i64 ((rd_T120 t203 x13_1).f0))).setCell ⟨gb205, 1, none⟩ (.int .i64 ((rd_T120 t203 x13_1).f1))).setCell ⟨gb205, 2, none⟩ (.string ((rd_T120 t203 x13_1).f2))) w.heap.size (fun k_ => some k_ ≠ (u4 : Value).ownBlock ∧ k_ ≠ gb205) (.slice (some ad204) t203.length co5) t203) := ⟨z101_⟩
        have n3_ : Aside0 ((((w29.setCell ⟨gb205, 0, none⟩ (.int .i64 ((rd_T120 t203 x13_1).f0))).setCell ⟨gb205, 1, none⟩ (.int .i64 ((rd_T120 t203 x13_1).f1))).setCell ⟨gb205, 2, none⟩ (.string ((rd_T120 t203 x13_1).f2))).heap[gb205]? = some (.cells #[.int .i64 ((rd_T120 t203 x13_1).f0), .int .i64 ((rd_T120 t203 x13_1).f1), .string ((rd_T120 t203 x13_1).f2)] 120 (0, 0))) := ⟨z102_⟩
        have n4_ : Aside0 (Below w.heap.size w (((w29.setCell ⟨gb205, 0, none⟩ (.int .i64 ((rd_T120 t203 x13_1).f0))).setCell ⟨gb205, 1, none⟩ (.int .i64 ((rd_T120 t203 x13_1).f1))).setCell ⟨gb205, 2, none⟩ (.string ((rd_T120 t203 x13_1).f2)))) := ⟨z103_⟩
        (try clear HO_3)
        (try clear HO_4)
        (try clear HO_11)
        (try clear BK205)
        (try clear HB)
        generalize (((w29.setCell ⟨gb205, 0, none⟩ (.int .i64 ((rd_T120 t203 x13_1).f0))).setCell ⟨gb205, 1, none⟩ (.int .i64 ((rd_T120 t203 x13_1).f1))).setCell ⟨gb205, 2, none⟩ (.string ((rd_T120 t203 x13_1).f2))) = w31 at n0_ n1_ n2_ n3_ n4_ ⊢
        have HO_3 := n0_
        have HO_4 := n1_
        have HO_11 := n2_
        have BK205 := n3_
        have HB := n4_
        clear n0_ n1_ n2_ n3_ n4_
        have n0_ := a0_ (Kd.R_drew HO_3.out)
        have n1_ := a0_ (Kd.R_drew HO_4.out)
        have n2_ := a0_ (Kd.R_drew HO_11.out)
        have n3_ := a0_ (blk_drew BK205.out)
        have n4_ := a0_ (below_drew1 HB.out)
        clear HO_3
        clear HO_4
        clear HO_11
        clear BK205
        clear HB
        have HO_3 := n0_
        have HO_4 := n1_
        have HO_11 := n2_
        have BK205 := n3_
        have HB := n4_
        clear n0_ n1_ n2_ n3_ n4_
        refine st_ 15 (S := fun w' => True) (ds := []) trivial (fun hHeld => ?_); refine with_tabW fold_Fold.tab7 fold_Fold.bits7 (fun HT_ HW_ => ?_)
        generalize w31.drew = w32 at HO_3 HO_4 HO_11 BK205 HB hHeld ⊢
        refine pq_ 0 (some 18) rfl rfl ?_
        refine pq_ 1 (some 19) rfl rfl ?_
        refine pq_ 2 (some 20) rfl rfl ?_
        refine pq_ 3 (some 21) rfl rfl ?_
        refine pq_ 4 (some 22) rfl rfl ?_
        refine pq_ 5 (some 23) rfl rfl ?_
        refine pw_ 6 (some 24) rfl rfl ?_
        refine pw_ 7 (some 25) rfl rfl ?_
        refine pw_ 8 (some 26) rfl rfl ?_
        refine pw_ 9 (some 27) rfl rfl ?_
        refine pw_ 10 (some 28) rfl rfl ?_
        refine pw_ 11 (some 29) rfl rfl ?_
        refine pw_ 12 (some 30) rfl rfl ?_
        refine pw_ 13 (some 31) rfl rfl ?_
        refine pq_ 14 (some 32) rfl rfl ?_
        refine done_ (done_of HT_.out z6_) ?_
        have hcz33_0 : w32.cell? ⟨gb205, 0, none⟩ = some (.int .i64 ((rd_T120 t203 x13_1).f0)) := (blk_cell BK205.out 0).trans rfl
        have hcz33_1 : w32.cell? ⟨gb205, 1, none⟩ = some (.int .i64 ((rd_T120 t203 x13_1).f1)) := (blk_cell BK205.out 1).trans rfl
        have hcz33_2 : w32.cell? ⟨gb205, 2, none⟩ = some (.string ((rd_T120 t203 x13_1).f2)) := (blk_cell BK205.out 2).trans rfl
        obtain ⟨hfz33_0, hfz33_1, hfz33_2⟩ := bf3_ BK205.out
        try go_wp2_with (first | ((with_reducible refine gate_builtin (b := .append) (xs := #[.tmp 33, .tmp 35]) rfl ?_); at_builtin; refine Kd.R_append k120 (w0 := w) w.heap.size rfl (.tmp 33) (.tmp 35) 49 120 (.agg #[(.int .i64 0), (.int .i64 0), (.string ⟨#[]⟩)]) 32 rfl Try.underlying49 info120 rfl z8_ z7_ u4 x4_1 (⟨(rd_T120 t203 x13_1).f0, (rd_T120 t203 x13_1).f1, (rd_T120 t203 x13_1).f2⟩ : S120) [.int .i64 ((rd_T120 t203 x13_1).f0), .int .i64 ((rd_T120 t203 x13_1).f1), .string ((rd_T120 t203 x13_1).f2)] (fun k_ => some k_ ≠ (.slice (some ad204) t203.length co5 : Value).ownBlock ∧ some k_ ≠ (.slice (some ad204) t203.length co5 : Value).ownBlock ∧ k_ ≠ gb205) (fun _ => False) rfl rfl ?aP (fun _ hk => hk.elim) ?aF ?aO ?aB ?aS ?aL ?_; (case aP => exact z108_); (case aB => exact z109_); (case aF => exact z110_); (case aO => exact z111_); (case aS => exact z112_); (case aL => have := LMc28.out; omega); intro v212 w34 ho hb hg hat; rw [← Ny211.out] at ho; have n0_ := a0_ (Kd.R_after (ok := (fun k_ => k_ ≠ gb205)) z113_ hg hat); have n1_ := a0_ (Kd.R_after (ok := (fun k_ => k_ ≠ gb205)) z114_ hg hat); have n2_ := a0_ (blk_grown (g := gb205) (o := .cells #[.int .i64 ((rd_T120 t203 x13_1).f0), .int .i64 ((rd_T120 t203 x13_1).f1), .string ((rd_T120 t203 x13_1).f2)] 120 (0, 0)) z105_ hg (Kd.R_away HO_4.out (fun _ hk => hk.2.2))); have n3_ := a0_ (hb); have n4_ := a0_ (ho); clear HO_3; clear HO_11; clear BK205; clear HB; clear HO_4; have HO_3 := n0_; have HO_11 := n1_; have BK205 := n2_; have HB := n3_; have HO213 := n4_; clear n0_ n1_ n2_ n3_ n4_; clear ho hb hg hat))
        (try simp only [← hl3_1])
        go_roundg k1
        case measure => have := HK1.out; omega
        case rel => exact ⟨(y211), (wrap64 (x13_1 + 1)), z4_, H', ⟨z39_⟩, ⟨z115_⟩, ⟨by (try simp only [hl3_1]); (try simp only [hl11_1]); (with_reducible repeat (first | apply Kd.R_alloc | apply Kd.R_drewN | apply Kd.R_drew)); exact Kd.R_mono HO213.out (fun _ hk => ⟨hk.1, hk.2.1⟩)⟩, ⟨z116_⟩, ⟨z103_⟩⟩
       ·rw [if_neg c28] at H
        exact absurd H (by simp)
     ·rw [if_neg c9] at H
      exact absurd H (by simp)
    ·rw [if_neg c8] at H
     exact absurd H (by simp)
   ·rw [if_neg c7] at H
    have c7b0 : decide (x13_1 < (t200.length : Int)) = false := decide_eq_false c7
    clear c7
    (try (have c7b0x := c7b0; simp only [hl3_1, hl11_1] at c7b0x))
    obtain rfl := Option.some.inj H
    go_wp2
    go_ret
    exact ⟨_, z2_, by (with_reducible repeat (first | apply Kd.R_alloc | apply Kd.R_drewN | apply Kd.R_drew)); exact Kd.R_mono HO_4.out (fun _ hk => trivial), z3_⟩
theorem own_room {w : World} {cells : Array Value} {cap : Nat} (h : cells.size = cap * 3) (hc : cap ≤ maxLen) : Kd.R k120 120 (w.drew.alloc (.cells cells 120)) w.heap.size (fun _ => True) (.slice (some ⟨w.heap.size, 0, none⟩) 0 cap) [] :=
 ⟨fun _ _ => trivial, [], ⟨by simp, Or.inr ⟨w.heap.size, cap, cells, rfl, Nat.le_refl _, (Array.getElem?_push_size : (w.heap.push (.cells cells 120))[w.heap.size]? = _), Nat.zero_le _, hc, h, by simp⟩⟩, Reps.none _ _⟩
theorem grow_nil (n : Nat) (h1 : n ≤ 400000) (w : World) : Calls Try.prog 107 #[.slice none 0 0, .int .i64 (n : Int)] w fun e w' => ∃ v, e = .returned v ∧ Kd.R k120 120 w' w.heap.size (fun _ => True) v [] ∧ Below w.heap.size w w' := by
 rcases Nat.eq_zero_or_pos n with rfl | hm
 ·refine (Any8.slices_Grow_room Try.growW none 0 0 0 w (Nat.le_refl _) z7_ z7_ z7_).mono ?_
  rintro e w' ⟨rfl, rfl⟩
  exact ⟨_, rfl, Kd.R_nil _ _ _ _ _, Below.refl _ _⟩
 ·obtain ⟨i0, hi, hz⟩ := Option.map_eq_some_iff.1 info120
  simp only [Prod.mk.injEq] at hz
  obtain ⟨hz0, hz1, hz2⟩ := hz
  refine (Any8.slices_Grow_grow Try.growW i0 _ hi hz0 z7_ none 0 0 n [] w (Nat.le_refl _) z7_ (by rw [hz2]; omega) z7_ (by simp) (fun _ => rfl) (fun a ha => by cases ha)).mono ?_
  rintro e w' ⟨rfl, rfl⟩
  refine ⟨_, rfl, own_room ?_ (grownCap_le_maxLen _ _ _ _ (by unfold maxLen; omega)), below_alloc (below_drew (Below.refl w.heap.size w)) _⟩
  have := grownCap_ge w n 0 120
  rw [Nat.zero_add]
  have e1 : Try.growW_ren.t 25 = 120 := rfl
  rw [e1]
  simp [Builtin.zeroCells, Value.cells]
  omega
def sumL (ll : List (List S120)) (i : Nat) : Nat := ((ll.take i).map List.length).sum
theorem sumL_succ (ll : List (List S120)) {i : Nat} (h : i < ll.length) : sumL ll (i + 1) = sumL ll i + ll[i].length := by
 unfold sumL
 rw [List.take_succ_eq_append_getElem h, List.map_append, List.sum_append]; simp
theorem sumL_le : ∀ (ll : List (List S120)) (i : Nat), sumL ll i ≤ (ll.map List.length).sum
 | [], i => by simp [sumL]
 | x :: r, 0 => by simp [sumL]
 | x :: r, i + 1 => by have := sumL_le r i; unfold sumL at *; simp only [List.take_succ_cons, List.map_cons, List.sum_cons]; omega
set_option maxHeartbeats 1000000 in
set_option maxRecDepth 100000 in
theorem concat_run (A0 : Option Addr) (c0 : Nat) (ll : List (List S120)) (w : World) (hr0 : Kd.C (Kd.slice 120 k120) w A0 ll.length ll) (hl : (ll.map List.length).sum ≤ 400000) :
  Calls Try.prog 90 #[.slice A0 ll.length c0] w fun e w' => ∃ v0_ : Value, e = .returned v0_ ∧ Kd.R k120 120 w' w.heap.size (fun _ => True) v0_ ll.flatten ∧ Below w.heap.size w w' := by
 have HR := a0_ hr0
 have hmax : ll.length ≤ 9223372036854775807 := hr0.2.1
 clear hr0
 have HB := a0_ (Below.refl w.heap.size w)
 have eg : ∀ args w, (callFunc 107 args).run Try.prog w = .ok (.enter 107 args) w := enters_of Try.func107 z6_ rfl
 go_enter Try.func90, Try.ntmps90
 go_wp2
 go_loopw [3, 5, 11] (fun v3 v5 v11 w' => ∃ (i : Nat), i ≤ ll.length ∧ v11 = .int .i64 i ∧ v3 = .int .i64 (sumL ll i : Nat) ∧ Aside0 (Below w.heap.size w w')) (fun _ _ v11 _ => ll.length - (intOf v11).toNat)
 case atStart => exact ⟨0, Nat.zero_le _, rfl, rfl, HB⟩
 case round =>
  obtain ⟨i, hi, rfl, rfl, HBx⟩ := hrel
  by_cases hlt : i < ll.length
  ·obtain ⟨ad, A1, c1, ead, hcell, hc1, hC1⟩ := at_L6 (Kd.C_below HR.out HBx.out) (i : Int) z7_ z7_
   cases ead
   rw [Int.toNat_natCast] at hcell
   have hrd : rd_L6 ll (i : Int) = ll[i] := by
    unfold rd_L6
    rw [Int.toNat_natCast, List.getD_eq_getElem?_getD, List.getElem?_eq_getElem hlt]
    rfl
   have hsum := sumL_succ ll hlt
   have hle : sumL ll (i + 1) ≤ 400000 := Nat.le_trans (sumL_le _ _) hl
   rw [hrd] at hcell
   have hs0 : 0 ≤ (i : Int) := by omega
   have hs1 : (i : Int) < (ll.length : Int) := by omega
   have hw1 : wrap64 ((sumL ll i : Int) + (ll[i].length : Int)) = (sumL ll (i + 1) : Int) := by unfold wrap64; omega
   have hn1 : ¬ ((sumL ll (i + 1) : Int) < 0) := by omega
   clear hsum hrd hC1
   generalize ll[i] = s at *
   go_wp2
   go_roundw
   case measure => simp [intOf]; omega
   case rel => exact ⟨i + 1, z7_, z9_, by rw [hw1], HBx⟩
  ·obtain rfl : i = ll.length := by omega
   go_wp2_with (go_at_fn 107; refine (grow_nil (sumL ll ll.length) (Nat.le_trans (sumL_le _ _) hl) _).mono ?_; rintro e w2 ⟨v6, rfl, ho6, hb6⟩; have HO6 := a0_ (Kd.R_lower ho6 (below_size HBx.out)); have HB6 := a0_ (below_step HBx.out hb6); clear ho6 hb6)
   go_loopw [6, 8, 27] (fun v6 v8 v27 w' => ∃ (i : Nat), i ≤ ll.length ∧ v27 = .int .i64 i ∧ Aside0 (Kd.R k120 120 w' w.heap.size (fun _ => True) v6 (ll.take i).flatten) ∧ Aside0 (Below w.heap.size w w')) (fun _ _ v27 _ => ll.length - (intOf v27).toNat)
   case atStart => exact ⟨0, Nat.zero_le _, rfl, HO6, HB6⟩
   case round =>
    obtain ⟨i, hi, rfl, HO, HBw⟩ := hrel
    by_cases hlt : i < ll.length
    ·obtain ⟨ad, A1, c1, ead, hcell, hc1, hC1⟩ := at_L6 (Kd.C_below HR.out HBw.out) (i : Int) z7_ z7_
     cases ead
     rw [Int.toNat_natCast] at hcell
     have hrd : rd_L6 ll (i : Int) = ll[i] := by
      unfold rd_L6
      rw [Int.toNat_natCast, List.getD_eq_getElem?_getD, List.getElem?_eq_getElem hlt]
      rfl
     have hsum := sumL_succ ll hlt
     have hle : sumL ll (i + 1) ≤ 400000 := Nat.le_trans (sumL_le _ _) hl
     rw [hrd] at hcell hC1
     have hfl : (ll.take (i + 1)).flatten = (ll.take i).flatten ++ ll[i] := by rw [List.take_succ_eq_append_getElem hlt, List.flatten_append]; simp
     have hfn : (ll.take i).flatten.length = sumL ll i := by rw [List.length_flatten]; rfl
     have hs0 : 0 ≤ (i : Int) := by omega
     have hs1 : (i : Int) < (ll.length : Int) := by omega
     have HC1 := a0_ hC1
     have HL := a0_ (show ((ll.take i).flatten.length + ll[i].length) * 32 ≤ 140737488355328 by rw [hfn]; omega)
     have HFL := a0_ hfl
     clear hsum hrd hC1 hfl hfn hle
     generalize ll[i] = s at *
     go_wp2_with ((with_reducible refine gate_builtin (b := .append) (xs := #[.tmp 31, .tmp 32]) rfl ?_); at_builtin; refine Kd.R_append_rows k120 (Rr := k120.K wr) (w0 := w) w.heap.size rfl (.tmp 31) (.tmp 32) 49 120 (.agg #[.int .i64 0, .int .i64 0, .string ⟨#[]⟩]) 32 rfl Try.underlying49 info120 rfl z8_ z7_ _ (ll.take i).flatten s _ _ _ (fun _ => True) (fun _ => False) rfl rfl HO.out HC1.out (fun x cs h => z75_) (fun _ h => h.elim) (fun _ _ => trivial) HBw.out (below_size HBw.out) HL.out ?_; intro v7 w7 ho7 hb7 hg_ hat_; have HO7 := a0_ ho7; have HB7 := a0_ hb7; clear ho7 hb7 hg_ hat_)
     go_roundw
     case measure => simp [intOf]; omega
     case rel => exact ⟨i + 1, z7_, z9_, ⟨by rw [HFL.out]; exact HO7.out⟩, HB7⟩
    ·obtain rfl : i = ll.length := by omega
     go_wp2
     go_ret
     exact ⟨_, rfl, by have := HO.out; rw [List.take_length] at this; exact this, HBw.out⟩
def api_Write_90.f (l0 : List (List (S120))) : Option (List (S120)) := if (l0.map List.length).sum ≤ 400000 then some l0.flatten else none
theorem api_Write_90.calls (A0 : Option Addr) (c0 : Nat) (l0 : List (List (S120))) (r : List (S120)) (w : World) (hr0 : Kd.C (Kd.slice 120 k120) w A0 l0.length l0) (hc0 : l0.length ≤ c0) (h : api_Write_90.f l0 = some r) :
  Calls Try.prog 90 #[.slice A0 l0.length c0] w fun e w' => ∃ v0_ : Value, e = .returned v0_ ∧ Kd.R k120 120 w' w.heap.size (fun _ => True) v0_ r ∧ Below w.heap.size w w' := by
 unfold api_Write_90.f at h
 by_cases c1 : (l0.map List.length).sum ≤ 400000
 ·rw [if_pos c1] at h
  obtain rfl := Option.some.inj h
  exact concat_run A0 c0 l0 w hr0 c1
 ·rw [if_neg c1] at h; cases h
def fold_Merge.f (k : Nat) (l0 : List (S120)) (l1 : List (S120)) : Option ((List (S120))) := (api_Write_90.f (([l0, l1] : List (List (S120))))).bind fun t217 => ((fold_Fold.f k t217).bind fun t220 => (some t220))
set_option maxHeartbeats 8000000 in
set_option maxRecDepth 100000 in
theorem fold_Merge.calls (k : Nat) (P0_ : Nat → Prop) (A0 : Option Addr) (c0 : Nat) (l0 : List (S120)) (P1_ : Nat → Prop) (A1 : Option Addr) (c1 : Nat) (l1 : List (S120)) (r : List (S120)) (w : World) (hs0 : Kd.V k120 120 w w.heap.size (fun k_ => P0_ k_) (.slice A0 l0.length c0) l0) (hs1 : Kd.V k120 120 w w.heap.size (fun k_ => P1_ k_) (.slice A1 l1.length c1) l1) (h : fold_Merge.f k l0 l1 = some r) :
  Calls Try.prog 54 #[.slice A0 l0.length c0, .slice A1 l1.length c1] w fun e w' => ∃ v0_ : Value, e = .returned (v0_) ∧ Kd.R k120 120 w' w.heap.size (fun k_ => (w.heap.size ≤ k_)) v0_ r ∧ Below w.heap.size w w' := by
 have HO0 := a0_ (show Kd.V k120 120 w w.heap.size (fun k_ => ((P0_ k_ ∨ P1_ k_) ∨ w.heap.size ≤ k_)) (.slice A0 l0.length c0) l0 from Kd.V_mono hs0 (fun k_ hk => .inl (.inl hk)))
 have HO1 := a0_ (show Kd.V k120 120 w w.heap.size (fun k_ => ((P0_ k_ ∨ P1_ k_) ∨ w.heap.size ≤ k_)) (.slice A1 l1.length c1) l1 from Kd.V_mono hs1 (fun k_ hk => .inl (.inr hk)))
 have HB := a0_ (Below.refl w.heap.size w)
 have H : ((api_Write_90.f (([l0, l1] : List (List (S120))))).bind fun t217 => ((fold_Fold.f k t217).bind fun t220 => (some t220))) = some r := h
 clear h
 obtain ⟨y214, hy214⟩ : ∃ y_ : List (List (S120)), y_ = (([l0, l1] : List (List (S120)))) := ⟨_, rfl⟩
 replace H : ((api_Write_90.f y214).bind fun t217 => ((fold_Fold.f k t217).bind fun t220 => (some t220))) = some r := by first | (rw [hy214]; with_reducible exact H) | (have H2_ := (Option.bind_some _ _).symm.trans H; rw [hy214]; with_reducible exact H2_) | (have H2_ := (Option.bind_some _ _).symm.trans H; with_reducible exact H2_) | with_reducible exact H | (rw [hy214]; exact H) | exact H
 have Ny214 := a0_ hy214
 clear hy214
 replace H := Option.bind_eq_some_iff.mp H
 obtain ⟨t217, A30, H⟩ := H
 try dsimp only at H
 have A3 := a0_ A30
 clear A30
 replace H := Option.bind_eq_some_iff.mp H
 obtain ⟨t220, A40, H⟩ := H
 try dsimp only at H
 have A4 := a0_ A40
 clear A40
 obtain rfl := Option.some.inj H
 go_enter Try.func54, Try.ntmps54
 go_wp2_with (first | ((with_reducible refine gate_dst (N := 7) rfl ?_); refine Kd.N_lit (Kd.slice 120 k120) _ 49 ?hg (N' := 7) ?hd (xs := ([l0, l1] : List (List (S120)))) (inner := [.slice A0 l0.length c0, .slice A1 l1.length c1]) (ok := (fun k_ => ((P0_ k_ ∨ P1_ k_) ∨ w.heap.size ≤ k_))) (okp := (fun k_ => ((P0_ k_ ∨ P1_ k_) ∨ w.heap.size ≤ k_))) ?hr ?hp (fun _ hk => hk) ((show ∀ k_, w.heap.size ≤ k_ → (fun k_ => ((P0_ k_ ∨ P1_ k_) ∨ w.heap.size ≤ k_)) k_ from fun k_ hk => (.inr (Nat.le_trans (below_size z3_) hk))) _ (Nat.le_refl _)) (Below.refl _ _) (Nat.le_refl _) (by simp) ?_; (case hd => rfl); (case hg => rfl); (case hr => exact z11_); (case hp => exact (Reps.one (show Kd.FK (Kd.slice 120 k120) _ _ l0 [.slice A0 l0.length c0] from (Kd.FK_slice_mk (Kd.V_reads' (Kd.V_mono (ok' := (fun k_ => ((P0_ k_ ∨ P1_ k_) ∨ w.heap.size ≤ k_))) (HO0.out) (fun k_ hk => hk))).2.1 (Kd.V_F (Kd.V_mono (ok' := (fun k_ => ((P0_ k_ ∨ P1_ k_) ∨ w.heap.size ≤ k_))) (HO0.out) (fun k_ hk => hk))))) (Reps.one (show Kd.FK (Kd.slice 120 k120) _ _ l1 [.slice A1 l1.length c1] from (Kd.FK_slice_mk (Kd.V_reads' (Kd.V_mono (ok' := (fun k_ => ((P0_ k_ ∨ P1_ k_) ∨ w.heap.size ≤ k_))) (HO1.out) (fun k_ hk => hk))).2.1 (Kd.V_F (Kd.V_mono (ok' := (fun k_ => ((P0_ k_ ∨ P1_ k_) ∨ w.heap.size ≤ k_))) (HO1.out) (fun k_ hk => hk))))) (Reps.none _ _)))); intro v215 w5 ho6 hb hg_ hnew_; clear hg_ hnew_; (first | rw [← Ny214.out] at ho6 | (simp only [Int.reduceToNat] at ho6; rw [← Ny214.out] at ho6)); replace HO0 := a0_ (Kd.V_elder' z117_ (Kd.N_base ho6) hb); replace HO1 := a0_ (Kd.V_elder' z118_ (Kd.N_base ho6) hb); have HO216 := a0_ (Kd.N_lower ho6 (below_size z3_)); replace HB := a0_ (below_step z3_ hb); clear hb ho6; obtain ⟨Ao7, co7, eo7⟩ := Kd.N_slice HO216.out; subst eo7) | ((with_reducible refine gate_callee (f := 90) rfl ?_); refine goesL_ (some 8) rfl rfl Try.func90 z6_ rfl #[.slice Ao7 y214.length co7] rfl z16_ ?_; (with_reducible refine (api_Write_90.calls _ _ y214 t217 _ ?side1 ?side2 A3.out).mono ?_); (case side1 => repeat (first | exact (Kd.N_reads' HO216.out).2.2 | (with_reducible refine Kd.C_alloc ?_ _) | (with_reducible refine Kd.C_drewN ?_ _) | (with_reducible refine Kd.C_drew ?_))); (case side2 => exact (Kd.N_reads' HO216.out).2.1); rintro e w8 ⟨v218, rfl, ho0, hb⟩; refine ⟨_, rfl, ?_⟩; replace HO0 := a0_ (Kd.V_elder' z117_ (Kd.R_base ho0) hb); replace HO1 := a0_ (Kd.V_elder' z118_ (Kd.R_base ho0) hb); replace HO216 := a0_ (Kd.N_elder' z119_ (Kd.R_base ho0) hb); have HO219 := a0_ (Kd.R_lower (Kd.R_newM (M := fun k_ => (w.heap.size ≤ k_)) ho0 (below_size z3_) (fun k_ h_ => h_)) (below_size z3_)); replace HB := a0_ (below_step z3_ hb); (try clear hb); (try clear hb2); (try clear hk); (try clear hi); (try clear ho0); obtain ⟨Ao9, co9, eo9⟩ := Kd.R_slice HO219.out; subst eo9) | ((with_reducible refine gate_callee (f := 61) rfl ?_); refine goesL_ (some 9) rfl rfl Try.func61 z6_ rfl #[.slice Ao9 t217.length co9] rfl z16_ ?_; (with_reducible refine (fold_Fold.calls k _ _ t217 t220 _ ?side1 ?side2 A4.out).mono ?_); (case side1 => repeat (first | exact (Kd.R_reads' HO219.out).2.2 | (with_reducible refine Kd.C_alloc ?_ _) | (with_reducible refine Kd.C_drewN ?_ _) | (with_reducible refine Kd.C_drew ?_))); (case side2 => exact (Kd.R_reads' HO219.out).2.1); rintro e w10 ⟨v221, rfl, ho0, hb⟩; refine ⟨_, rfl, ?_⟩; have n0_ := a0_ (Kd.V_elder' z117_ (Kd.R_base ho0) hb); have n1_ := a0_ (Kd.V_elder' z118_ (Kd.R_base ho0) hb); have n2_ := a0_ (Kd.N_elder' z119_ (Kd.R_base ho0) hb); have n3_ := a0_ (Kd.R_elder' z120_ (Kd.R_base ho0) hb); have n4_ := a0_ (Kd.R_lower (Kd.R_new' (Kd.R_newM (M := fun k_ => (w.heap.size ≤ k_)) ho0 (below_size z3_) (fun k_ h_ => h_)) (Kd.R_lt z120_)) (below_size z3_)); have n5_ := a0_ (below_step z3_ hb); clear HO0; clear HO1; clear HO216; clear HO219; clear HB; have HO0 := n0_; have HO1 := n1_; have HO216 := n2_; have HO219 := n3_; have HO222 := n4_; have HB := n5_; clear n0_ n1_ n2_ n3_ n4_ n5_; (try clear hb); (try clear hb2); (try clear hk); (try clear hi); (try clear ho0)))
 go_ret
 exact ⟨_, z2_, by (with_reducible repeat (first | apply Kd.R_alloc | apply Kd.R_drewN | apply Kd.R_drew)); exact Kd.R_mono HO222.out (fun _ hk => hk.1.1), z3_⟩
end Go.Proofs.Ytecfndblgefhdaa.R
