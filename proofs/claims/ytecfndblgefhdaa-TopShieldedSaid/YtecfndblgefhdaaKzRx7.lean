import Derived.Test.YtecfndblgefhdaaKzRx3
namespace Go.Proofs.Ytecfndblgefhdaa.R
open Go.RowKit Go.Proofs.YtecfndblgefhdaaW.PrintWords Go.Proofs.YtecfndblgefhdaaW.PrintLast Go.Proofs.YtecfndblgefhdaaW.PrintMore
attribute [local go_sem] max2_int min2_int max_two min_two max_three min_three max_four min_four
set_option linter.unusedVariables false
set_option linter.unusedSimpArgs false
mutual
def api_Write_115.l0 : Nat → List (S120) → Int → Int → Int → Option ((List (S120)))
 | 0, _, _, _, _ => none
 | k + 1, x0, x1, x2, x8 => if x8 < x2 then (api_Write_115.l1 k x0 x1 x2 x8 x8) else (some x0)
def api_Write_115.l1 : Nat → List (S120) → Int → Int → Int → Int → Option ((List (S120)))
 | 0, _, _, _, _, _ => none
 | k + 1, x0, x1, x2, x8, x9 => if x9 > x1 then (if 0 ≤ x9 then (if x9 < (x0.length : Int) then (if 0 ≤ (wrap64 (x9 - 1)) then (if (wrap64 (x9 - 1)) < (x0.length : Int) then ((fold_order.f k ((rd_T120 x0 x9).f0) ((rd_T120 x0 x9).f1) ((rd_T120 x0 x9).f2) ((rd_T120 x0 (wrap64 (x9 - 1))).f0) ((rd_T120 x0 (wrap64 (x9 - 1))).f1) ((rd_T120 x0 (wrap64 (x9 - 1))).f2)).bind fun t162 => (if t162 < 0 then (api_Write_115.l1 k ((x0.set (x9 : Int).toNat (⟨(rd_T120 x0 (wrap64 (x9 - 1))).f0, (rd_T120 x0 (wrap64 (x9 - 1))).f1, (rd_T120 x0 (wrap64 (x9 - 1))).f2⟩ : S120)).set ((wrap64 (x9 - 1)) : Int).toNat (⟨(rd_T120 x0 x9).f0, (rd_T120 x0 x9).f1, (rd_T120 x0 x9).f2⟩ : S120)) x1 x2 x8 (wrap64 (x9 - 1))) else (api_Write_115.l0 k x0 x1 x2 (wrap64 (x8 + 1))))) else (none)) else (none)) else (none)) else (none)) else (api_Write_115.l0 k x0 x1 x2 (wrap64 (x8 + 1)))
end
def api_Write_115.f (k : Nat) (l0 : List (S120)) (a1 : Int) (a2 : Int) (a3 : Nat) : Option ((List (S120))) := api_Write_115.l0 k l0 a1 a2 (wrap64 (a1 + 1))
def api_Write_115.T4 : Bool × List (List Nat × List Nat) := (true, [([], []), ([], []), ([0, 1], [0, 1]), ([2], [2]), ([3], [3]), ([3], [3]), ([3], [3]), ([5, 6, 3], [3, 5, 6]), ([7, 3], [3, 7]), ([3], [3]), ([3], [3]), ([10, 3], [3, 10]), ([9, 11, 3], [3, 9, 11]), ([12, 3], [3, 12]), ([4, 8, 13, 3, 3], [3, 4, 8, 13]), ([14, 3], [3, 14]), ([3, 15], [3, 15])])
def api_Write_115.B4 : List Nat := [0, 0, 3, 7, 15, 15, 15, 111, 239, 15, 15, 1039, 3599, 7695, 16383, 32767, 65535]
theorem api_Write_115.tab4 : rtab .any (opsOf Try.f115 4) = api_Write_115.T4 := by kernel_rfl
theorem api_Write_115.bits4 : waitsOk api_Write_115.T4.2 api_Write_115.B4 = true := by kernel_rfl
def api_Write_115.T6 : Bool × List (List Nat × List Nat) := (true, [([], []), ([], []), ([], []), ([], []), ([3], [3]), ([], []), ([], []), ([6], [6]), ([5, 7], [5, 7]), ([8], [8]), ([], []), ([], []), ([10, 11], [10, 11]), ([12], [12]), ([0, 1, 0, 1, 5, 6, 7, 8, 9, 13], [0, 1]), ([14, 9, 0, 1, 5, 6, 7, 8, 9, 13], [9, 14]), ([2, 4, 0, 1, 2, 3, 4, 5, 6, 7, 8, 9, 10, 11, 12, 13, 14, 15], [2, 4]), ([16, 13, 15, 0, 1, 2, 3, 4, 5, 6, 7, 8, 9, 10, 11, 12, 13, 14, 15], [13, 16])])
def api_Write_115.B6 : List Nat := [0, 0, 0, 0, 8, 0, 0, 64, 224, 480, 0, 0, 3072, 7168, 16355, 32739, 65535, 131071]
theorem api_Write_115.tab6 : rtab .any (opsOf Try.f115 6) = api_Write_115.T6 := by kernel_rfl
theorem api_Write_115.bits6 : waitsOk api_Write_115.T6.2 api_Write_115.B6 = true := by kernel_rfl
set_option maxHeartbeats 8000000 in
set_option maxRecDepth 100000 in
theorem api_Write_115.calls (k : Nat) (P0_ : Nat → Prop) (u9000_ : Value) (l0 : List (S120)) (a1 : Int) (a2 : Int) (a3 : Nat) (r : List (S120)) (w0 w : World) (hB : Below w0.heap.size w0 w) (ho0 : Kd.R k120 120 w w0.heap.size P0_ u9000_ l0) (h : api_Write_115.f k l0 a1 a2 a3 = some r) (h93 : a3 = 93 := by rfl) :
  Calls Try.prog 115 #[u9000_, .int .i64 a1, .int .i64 a2, .func (.func a3) #[] #[]] w fun e w' => e = .returned (.tuple #[]) ∧ Kd.R k120 120 w' w0.heap.size (fun k_ => (P0_ k_ ∨ w.heap.size ≤ k_)) u9000_ r ∧ Below w0.heap.size w0 w' ∧ Kept w w' (fun k_ => P0_ k_) := by
 subst h93
 have hu120 := Try.underlying120
 have HO0 := a0_ (show Kd.R k120 120 w w0.heap.size (fun k_ => (P0_ k_ ∨ w.heap.size ≤ k_)) u9000_ l0 from Kd.R_mono ho0 (fun k_ hk => (.inl hk)))
 have HK := a0_ (Kept.refl w (fun k_ => P0_ k_))
 have HW0 := a0_ hB.size
 have HB := a0_ hB
 clear hB
 have H : (api_Write_115.l0 k l0 a1 a2 (wrap64 (a1 + 1))) = some r := h
 clear h
 have H' := a0_ H
 clear H
 go_enter Try.func115, Try.ntmps115
 go_wp2
 go_loopg [8] k (fun kq v8 w' => ∃ (x0_1 : List (S120)) (x8_1 : Int), v8 = .int .i64 x8_1 ∧ Aside0 (api_Write_115.l0 kq x0_1 a1 a2 x8_1 = some r) ∧ Aside0 (kq ≤ k) ∧ Aside0 (Kd.R k120 120 w' w0.heap.size (fun k_ => (P0_ k_ ∨ w.heap.size ≤ k_)) u9000_ x0_1) ∧ Aside0 (Kept w w' (fun k_ => P0_ k_)) ∧ Aside0 (Below w0.heap.size w0 w'))
 case atStart => exact ⟨(l0), (wrap64 (a1 + 1)), z4_, H', ⟨Nat.le_refl _⟩, ⟨z76_⟩, ⟨z77_⟩, ⟨z3_⟩⟩
 case round =>
  clear H'
  obtain ⟨x0_1, x8_1, rfl, HA, HK1, HO_0, HK, HB⟩ := hrel
  cases gk with
  | zero => exact absurd HA.out (by simp [api_Write_115.l0])
  | succ k1 =>
   have H := HA.out
   clear HA
   simp only [api_Write_115.l0] at H
   by_cases c5 : x8_1 < a2
   ·rw [if_pos c5] at H
    have c5b0 : decide (x8_1 < a2) = true := decide_eq_true c5
    clear c5
    have H' := a0_ H
    clear H
    go_wp2
    go_loopg [9] k1 (fun kq v9 w' => ∃ (x0_2 : List (S120)) (x9_2 : Int), v9 = .int .i64 x9_2 ∧ Aside0 (api_Write_115.l1 kq x0_2 a1 a2 x8_1 x9_2 = some r) ∧ Aside0 (kq ≤ k1) ∧ Aside0 (Kd.R k120 120 w' w0.heap.size (fun k_ => (P0_ k_ ∨ w.heap.size ≤ k_)) u9000_ x0_2) ∧ Aside0 (Kept w w' (fun k_ => P0_ k_)) ∧ Aside0 (Below w0.heap.size w0 w'))
    case atStart => exact ⟨(x0_1), (x8_1), z4_, H', ⟨Nat.le_refl _⟩, ⟨z78_⟩, ⟨z77_⟩, ⟨z3_⟩⟩
    case round =>
     clear H'
     obtain ⟨x0_2, x9_2, rfl, HA, HK2, HO_0, HK, HB⟩ := hrel
     cases gk with
     | zero => exact absurd HA.out (by simp [api_Write_115.l1])
     | succ k2 =>
      have H := HA.out
      clear HA
      simp only [api_Write_115.l1] at H
      by_cases c6 : x9_2 > a1
      ·rw [if_pos c6] at H
       have c6b0 : decide (a1 < x9_2) = true := decide_eq_true c6
       clear c6
       by_cases c7 : 0 ≤ x9_2
       ·rw [if_pos c7] at H
        have c7b0 : decide (0 ≤ x9_2) = true := decide_eq_true c7
        clear c7
        by_cases c8 : x9_2 < (x0_2.length : Int)
        ·rw [if_pos c8] at H
         have c8b0 : decide (x9_2 < (x0_2.length : Int)) = true := decide_eq_true c8
         clear c8
         obtain ⟨ji9, hji9⟩ : ∃ j_ : Int, (wrap64 (x9_2 - 1)) = j_ := ⟨_, rfl⟩
         replace H : (if 0 ≤ (ji9) then (if (ji9) < (x0_2.length : Int) then ((fold_order.f k2 ((rd_T120 x0_2 x9_2).f0) ((rd_T120 x0_2 x9_2).f1) ((rd_T120 x0_2 x9_2).f2) ((rd_T120 x0_2 (ji9)).f0) ((rd_T120 x0_2 (ji9)).f1) ((rd_T120 x0_2 (ji9)).f2)).bind fun t162 => (if t162 < 0 then (api_Write_115.l1 k2 ((x0_2.set (x9_2 : Int).toNat (⟨(rd_T120 x0_2 (ji9)).f0, (rd_T120 x0_2 (ji9)).f1, (rd_T120 x0_2 (ji9)).f2⟩ : S120)).set ((ji9) : Int).toNat (⟨(rd_T120 x0_2 x9_2).f0, (rd_T120 x0_2 x9_2).f1, (rd_T120 x0_2 x9_2).f2⟩ : S120)) a1 a2 x8_1 ji9) else (api_Write_115.l0 k2 x0_2 a1 a2 (wrap64 (x8_1 + 1))))) else (none)) else (none)) = some r := by first | (rw [hji9] at H; exact H) | (simp only [hji9] at H ⊢; exact H)
         have hji9w : (IntKind.i64.wrap (x9_2 - 1)) = ji9 := (i64_w _).trans hji9
         by_cases c10 : 0 ≤ (ji9)
         ·rw [if_pos c10] at H
          have c10b0 : decide (0 ≤ (ji9)) = true := decide_eq_true c10
          clear c10
          by_cases c11 : (ji9) < (x0_2.length : Int)
          ·rw [if_pos c11] at H
           have c11b0 : decide ((ji9) < (x0_2.length : Int)) = true := decide_eq_true c11
           clear c11
           replace H := Option.bind_eq_some_iff.mp H
           obtain ⟨t162, A120, H⟩ := H
           try dsimp only at H
           have A12 := a0_ A120
           clear A120
           by_cases c13 : t162 < 0
           ·rw [if_pos c13] at H
            have c13b0 : decide (t162 < 0) = true := decide_eq_true c13
            clear c13
            obtain ⟨y165, hy165⟩ : ∃ y_ : List (S120), y_ = (x0_2.set (x9_2 : Int).toNat (⟨(rd_T120 x0_2 (ji9)).f0, (rd_T120 x0_2 (ji9)).f1, (rd_T120 x0_2 (ji9)).f2⟩ : S120)) := ⟨_, rfl⟩
            replace H : (api_Write_115.l1 k2 (y165.set ((ji9) : Int).toNat (⟨(rd_T120 x0_2 x9_2).f0, (rd_T120 x0_2 x9_2).f1, (rd_T120 x0_2 x9_2).f2⟩ : S120)) a1 a2 x8_1 ji9) = some r := by first | (rw [hy165]; with_reducible exact H) | (have H2_ := (Option.bind_some _ _).symm.trans H; rw [hy165]; with_reducible exact H2_) | (have H2_ := (Option.bind_some _ _).symm.trans H; with_reducible exact H2_) | with_reducible exact H | (rw [hy165]; exact H) | exact H
            have Ny165 := a0_ hy165
            clear hy165
            obtain ⟨y166, hy166⟩ : ∃ y_ : List (S120), y_ = (y165.set ((ji9) : Int).toNat (⟨(rd_T120 x0_2 x9_2).f0, (rd_T120 x0_2 x9_2).f1, (rd_T120 x0_2 x9_2).f2⟩ : S120)) := ⟨_, rfl⟩
            replace H : (api_Write_115.l1 k2 y166 a1 a2 x8_1 ji9) = some r := by first | (rw [hy166]; with_reducible exact H) | (have H2_ := (Option.bind_some _ _).symm.trans H; rw [hy166]; with_reducible exact H2_) | (have H2_ := (Option.bind_some _ _).symm.trans H; with_reducible exact H2_) | with_reducible exact H | (rw [hy166]; exact H) | exact H
            have Ny166 := a0_ hy166
            clear hy166
            have H' := a0_ H
            clear H
            try go_wp2
            have n0_ := a0_ (Kd.R_drew HO_0.out)
            have n1_ := a0_ (Kept.drew HK.out)
            have n2_ := a0_ (below_drew1 HB.out)
            clear HO_0
            clear HK
            clear HB
            have HO_0 := n0_
            have HK := n1_
            have HB := n2_
            clear n0_ n1_ n2_
            obtain ⟨Ao17, co17, eo17⟩ := Kd.R_slice HO_0.out
            (first | subst eo17 | (injection eo17 with f1_ f2_ f3_; have f4_ := f1_.symm; have f5_ := f3_.symm; clear f1_ f2_ f3_; subst f4_; subst f5_))
            have p160 : 0 ≤ (x9_2 : Int) := of_decide_eq_true z10_
            have q160 : x9_2 < (x0_2.length : Int) := of_decide_eq_true z10_
            obtain ⟨ad160, e160, hx160_0, hx160_1, hx160_2⟩ := at_T120 (Kd.R_reads' HO_0.out).2.2 x9_2 p160 q160
            cases e160
            replace p160 := eq_true p160
            replace q160 := eq_true q160
            have p161 : 0 ≤ ((ji9) : Int) := of_decide_eq_true z10_
            have q161 : (ji9) < (x0_2.length : Int) := of_decide_eq_true z10_
            obtain ⟨ad161, e161, hx161_0, hx161_1, hx161_2⟩ := at_T120 (Kd.R_reads' HO_0.out).2.2 (ji9) p161 q161
            obtain rfl : ad160 = ad161 := (by injection e161)
            replace p161 := eq_true p161
            replace q161 := eq_true q161
            refine st_ 17 (S := fun w' => w'.cell? (ad160.add ((x9_2).toNat * 3)) = some (.int .i64 ((rd_T120 x0_2 x9_2).f0)) ∧ w'.cell? ⟨(ad160.add ((x9_2).toNat * 3)).block, (ad160.add ((x9_2).toNat * 3)).off + 1, none⟩ = some (.int .i64 ((rd_T120 x0_2 x9_2).f1)) ∧ w'.cell? ⟨(ad160.add ((x9_2).toNat * 3)).block, (ad160.add ((x9_2).toNat * 3)).off + 2, none⟩ = some (.string ((rd_T120 x0_2 x9_2).f2)) ∧ w'.cell? (ad160.add (((ji9)).toNat * 3)) = some (.int .i64 ((rd_T120 x0_2 (ji9)).f0)) ∧ w'.cell? ⟨(ad160.add (((ji9)).toNat * 3)).block, (ad160.add (((ji9)).toNat * 3)).off + 1, none⟩ = some (.int .i64 ((rd_T120 x0_2 (ji9)).f1)) ∧ w'.cell? ⟨(ad160.add (((ji9)).toNat * 3)).block, (ad160.add (((ji9)).toNat * 3)).off + 2, none⟩ = some (.string ((rd_T120 x0_2 (ji9)).f2))) (ds := []) ⟨hx160_0, hx160_1, hx160_2, hx161_0, hx161_1, hx161_2⟩ (fun hHeld => ?_); refine with_tabW api_Write_115.tab4 api_Write_115.bits4 (fun HT_ HW_ => ?_)
            generalize wr.drew = w16 at HO_0 HK HB hx160_0 hx160_1 hx160_2 hx161_0 hx161_1 hx161_2 hHeld ⊢
            refine pq_ 0 (some 18) rfl rfl ?_
            refine pq_ 1 (some 19) rfl rfl ?_
            refine pq_ 2 (some 20) rfl rfl ?_
            refine pq_ 3 (some 21) rfl rfl ?_
            refine pq_ 4 (some 22) rfl rfl ?_
            refine pq_ 5 (some 23) rfl rfl ?_
            refine pq_ 6 (some 24) rfl rfl ?_
            refine pq_ 7 (some 25) rfl rfl ?_
            refine pq_ 9 (some 27) rfl rfl ?_
            refine pq_ 10 (some 28) rfl rfl ?_
            refine pq_ 11 (some 29) rfl rfl ?_
            refine pq_ 12 (some 30) rfl rfl ?_
            refine tq_ 8 (some 26) rfl rfl hHeld ?_
            refine tq_ 13 (some 31) rfl rfl hHeld ?_
            refine oq_ 14 (some 32) rfl rfl (fun K hK => ?_)
            refine goesF_ Try.func93 z6_ rfl #[.agg #[.int .i64 ((rd_T120 x0_2 x9_2).f0), .int .i64 ((rd_T120 x0_2 x9_2).f1), .string ((rd_T120 x0_2 x9_2).f2)], .agg #[.int .i64 ((rd_T120 x0_2 (ji9)).f0), .int .i64 ((rd_T120 x0_2 (ji9)).f1), .string ((rd_T120 x0_2 (ji9)).f2)]] (by rfl) rfl rfl z79_ ?_
            with_reducible refine (fold_order.calls k2 ((rd_T120 x0_2 x9_2).f0) ((rd_T120 x0_2 x9_2).f1) ((rd_T120 x0_2 x9_2).f2) ((rd_T120 x0_2 (ji9)).f0) ((rd_T120 x0_2 (ji9)).f1) ((rd_T120 x0_2 (ji9)).f2) t162 _ A12.out).mono ?_
            rintro e w18 ⟨rfl, hb⟩
            have HS0_ := (hb.cell (World.block_lt_of_cell? _ _ (hHeld.1))).trans (hHeld.1)
            have HS1_ := (hb.cell (World.block_lt_of_cell? _ _ (hHeld.2.1))).trans (hHeld.2.1)
            have HS2_ := (hb.cell (World.block_lt_of_cell? _ _ (hHeld.2.2.1))).trans (hHeld.2.2.1)
            have HS3_ := (hb.cell (World.block_lt_of_cell? _ _ (hHeld.2.2.2.1))).trans (hHeld.2.2.2.1)
            have HS4_ := (hb.cell (World.block_lt_of_cell? _ _ (hHeld.2.2.2.2.1))).trans (hHeld.2.2.2.2.1)
            have HS5_ := (hb.cell (World.block_lt_of_cell? _ _ (hHeld.2.2.2.2.2))).trans (hHeld.2.2.2.2.2)
            refine ⟨_, rfl, ?_⟩
            have n0_ := a0_ (Kd.R_below z78_ hb)
            have n1_ := a0_ (Kept.below (S := (fun k_ => P0_ k_)) z77_ hb)
            have n2_ := a0_ (below_step z3_ hb)
            clear HO_0
            clear HK
            clear HB
            have HO_0 := n0_
            have HK := n1_
            have HB := n2_
            clear n0_ n1_ n2_
            (try clear hb)
            (try clear hb2)
            (try clear hk)
            (try clear hi)
            refine hK.out _ _ ⟨HS0_, HS1_, HS2_, HS3_, HS4_, HS5_⟩ (fun hHeld => ?_)
            clear hK K
            refine norm_ (a' := ?_) ?_ ?_
            rotate_left
            ·show Act.put _ (some 32) _ = _
             exact put_
            refine pq_ 15 (some 33) rfl rfl ?_
            refine pq_ 16 (some 34) rfl rfl ?_
            refine done_ (done_of HT_.out z6_) ?_
            try go_wp2
            have n0_ := a0_ (Kd.R_drew HO_0.out)
            have n1_ := a0_ (Kept.drew HK.out)
            have n2_ := a0_ (below_drew1 HB.out)
            clear HO_0
            clear HK
            clear HB
            have HO_0 := n0_
            have HK := n1_
            have HB := n2_
            clear n0_ n1_ n2_
            have p163 : 0 ≤ ((ji9) : Int) := of_decide_eq_true z10_
            have q163 : (ji9) < (x0_2.length : Int) := of_decide_eq_true z10_
            obtain ⟨ad163, e163, hx163_0, hx163_1, hx163_2⟩ := at_T120 (Kd.R_reads' HO_0.out).2.2 (ji9) p163 q163
            obtain rfl : ad160 = ad163 := (by injection e163)
            replace p163 := eq_true p163
            replace q163 := eq_true q163
            have p164 : 0 ≤ (x9_2 : Int) := of_decide_eq_true z10_
            have q164 : x9_2 < (x0_2.length : Int) := of_decide_eq_true z10_
            obtain ⟨ad164, e164, hx164_0, hx164_1, hx164_2⟩ := at_T120 (Kd.R_reads' HO_0.out).2.2 x9_2 p164 q164
            obtain rfl : ad160 = ad164 := (by injection e164)
            replace p164 := eq_true p164
            replace q164 := eq_true q164
            have p14 : 0 ≤ (x9_2 : Int) := of_decide_eq_true z10_
            have q14 : (x9_2 : Int) < ((x0_2.length : Int) : Int) := of_decide_eq_true z10_
            obtain ⟨go14, co14, eo14, gb14, gl14, cl14, HG14⟩ := Kd.R_form HO_0.out z7_
            (first | cases eo14 | (injection eo14 with ea_ en_ ec_; (first | subst ea_ | (injection ea_ with ea_; subst ea_)); subst ec_; clear en_))
            have GB14 := a0_ gb14
            have GG14 := a0_ HG14
            clear gb14 gl14 HG14
            have HMgo14 := a0_ (show (P0_ go14 ∨ w.heap.size ≤ go14) from (HO_0.out.1 _ rfl))
            (first | simp only [add_plain] at hx160_0 | skip)
            (first | simp only [add_plain] at hx160_1 | skip)
            (first | simp only [add_plain] at hx160_2 | skip)
            (first | simp only [add_plain] at hx161_0 | skip)
            (first | simp only [add_plain] at hx161_1 | skip)
            (first | simp only [add_plain] at hx161_2 | skip)
            (first | simp only [add_plain] at hx163_0 | skip)
            (first | simp only [add_plain] at hx163_1 | skip)
            (first | simp only [add_plain] at hx163_2 | skip)
            (first | simp only [add_plain] at hx164_0 | skip)
            (first | simp only [add_plain] at hx164_1 | skip)
            (first | simp only [add_plain] at hx164_2 | skip)
            obtain ⟨ce14, hcl14, hM14, hcc14, hfr14⟩ := Kd.R_elem HO_0.out z120 (x9_2 : Int) p14 q14
            obtain rfl := k120_openM hM14
            have hx14_0 : World.cell? _ ⟨go14, (x9_2 : Int).toNat * 3, none⟩ = some (.int .i64 ((rd_T120 x0_2 x9_2).f0)) := hcc14 0 _ rfl
            have hx14_1 : World.cell? _ ⟨go14, (x9_2 : Int).toNat * 3 + 1, none⟩ = some (.int .i64 ((rd_T120 x0_2 x9_2).f1)) := hcc14 1 _ rfl
            have hx14_2 : World.cell? _ ⟨go14, (x9_2 : Int).toNat * 3 + 2, none⟩ = some (.string ((rd_T120 x0_2 x9_2).f2)) := hcc14 2 _ rfl
            have hf14_0 : World.frozen? _ ⟨go14, (x9_2 : Int).toNat * 3, none⟩ = false := hfr14 0
            have hf14_1 : World.frozen? _ ⟨go14, (x9_2 : Int).toNat * 3 + 1, none⟩ = false := hfr14 1
            have hf14_2 : World.frozen? _ ⟨go14, (x9_2 : Int).toNat * 3 + 2, none⟩ = false := hfr14 2
            clear hcl14 hcc14 hfr14 hM14
            replace p14 := eq_true p14
            replace q14 := eq_true q14
            obtain ⟨ce20, hcl20, hM20, hcc20, hfr20⟩ := Kd.R_elem HO_0.out z120 (x9_2 : Int) (of_decide_eq_true z10_) (by have h_ : (x9_2 : Int) < ((x0_2.length : Int) : Int) := of_decide_eq_true z10_; first | exact h_ | (have e_ := (Kd.R_reads' HO_0.out).1; omega) | simpa using h_)
            obtain rfl := k120_openM hM20
            have HP20 := (Kd.R_seg HO_0.out (x9_2 : Int) (of_decide_eq_true z10_) (by have h_ : (x9_2 : Int) < ((x0_2.length : Int) : Int) := of_decide_eq_true z10_; first | exact h_ | (have e_ := (Kd.R_reads' HO_0.out).1; omega) | simpa using h_) (seg := [.int .i64 ((rd_T120 x0_2 (ji9)).f0), .int .i64 ((rd_T120 x0_2 (ji9)).f1), .string ((rd_T120 x0_2 (ji9)).f2)]) (j := 0) hcl20 hcc20 (show 3 ≤ 3 from z8_) (x' := (⟨(rd_T120 x0_2 (ji9)).f0, (rd_T120 x0_2 (ji9)).f1, (rd_T120 x0_2 (ji9)).f2⟩ : S120)) (k120_mkM _ _ _ (⟨(rd_T120 x0_2 (ji9)).f0, (rd_T120 x0_2 (ji9)).f1, (rd_T120 x0_2 (ji9)).f2⟩ : S120) ) (fun _ hk => hk)).1
            rw [← Ny165.out] at HP20
            have HQ20 := a0_ HP20
            clear hcl20 hcc20 hfr20 hM20 HP20
            have p15 : 0 ≤ ((ji9) : Int) := of_decide_eq_true z10_
            have q15 : ((ji9) : Int) < ((x0_2.length : Int) : Int) := of_decide_eq_true z10_
            obtain ⟨ce15, hcl15, hM15, hcc15, hfr15⟩ := Kd.R_elem HQ20.out z120 ((ji9) : Int) p15 q15
            obtain rfl := k120_openM hM15
            have hx15_0 : World.cell? _ ⟨go14, ((ji9) : Int).toNat * 3, none⟩ = some (.int .i64 ((rd_T120 y165 (ji9)).f0)) := hcc15 0 _ rfl
            have hx15_1 : World.cell? _ ⟨go14, ((ji9) : Int).toNat * 3 + 1, none⟩ = some (.int .i64 ((rd_T120 y165 (ji9)).f1)) := hcc15 1 _ rfl
            have hx15_2 : World.cell? _ ⟨go14, ((ji9) : Int).toNat * 3 + 2, none⟩ = some (.string ((rd_T120 y165 (ji9)).f2)) := hcc15 2 _ rfl
            have hf15_0 : World.frozen? _ ⟨go14, ((ji9) : Int).toNat * 3, none⟩ = false := hfr15 0
            have hf15_1 : World.frozen? _ ⟨go14, ((ji9) : Int).toNat * 3 + 1, none⟩ = false := hfr15 1
            have hf15_2 : World.frozen? _ ⟨go14, ((ji9) : Int).toNat * 3 + 2, none⟩ = false := hfr15 2
            clear hcl15 hcc15 hfr15 hM15
            replace p15 := eq_true p15
            replace q15 := eq_true q15
            obtain ⟨ce21, hcl21, hM21, hcc21, hfr21⟩ := Kd.R_elem HQ20.out z120 ((ji9) : Int) (of_decide_eq_true z10_) (by have h_ : ((ji9) : Int) < ((x0_2.length : Int) : Int) := of_decide_eq_true z10_; first | exact h_ | (have e_ := (Kd.R_reads' HO_0.out).1; omega) | simpa using h_)
            obtain rfl := k120_openM hM21
            have HP21 := (Kd.R_seg HQ20.out ((ji9) : Int) (of_decide_eq_true z10_) (by have h_ : ((ji9) : Int) < ((x0_2.length : Int) : Int) := of_decide_eq_true z10_; first | exact h_ | (have e_ := (Kd.R_reads' HO_0.out).1; omega) | simpa using h_) (seg := [.int .i64 ((rd_T120 x0_2 x9_2).f0), .int .i64 ((rd_T120 x0_2 x9_2).f1), .string ((rd_T120 x0_2 x9_2).f2)]) (j := 0) hcl21 hcc21 (show 3 ≤ 3 from z8_) (x' := (⟨(rd_T120 x0_2 x9_2).f0, (rd_T120 x0_2 x9_2).f1, (rd_T120 x0_2 x9_2).f2⟩ : S120)) (k120_mkM _ _ _ (⟨(rd_T120 x0_2 x9_2).f0, (rd_T120 x0_2 x9_2).f1, (rd_T120 x0_2 x9_2).f2⟩ : S120) ) (fun _ hk => hk)).1
            rw [← Ny166.out] at HP21
            have HQ21 := a0_ HP21
            clear hcl21 hcc21 hfr21 hM21 HP21
            refine st_ 18 (S := fun w' => w'.cell? ⟨go14, (((ji9)).toNat * 3), none⟩ = some (.int .i64 ((rd_T120 x0_2 (ji9)).f0)) ∧ w'.cell? ⟨go14, (((ji9)).toNat * 3) + 1, none⟩ = some (.int .i64 ((rd_T120 x0_2 (ji9)).f1)) ∧ w'.cell? ⟨go14, (((ji9)).toNat * 3) + 2, none⟩ = some (.string ((rd_T120 x0_2 (ji9)).f2)) ∧ w'.cell? ⟨go14, ((x9_2).toNat * 3), none⟩ = some (.int .i64 ((rd_T120 x0_2 x9_2).f0)) ∧ w'.cell? ⟨go14, ((x9_2).toNat * 3) + 1, none⟩ = some (.int .i64 ((rd_T120 x0_2 x9_2).f1)) ∧ w'.cell? ⟨go14, ((x9_2).toNat * 3) + 2, none⟩ = some (.string ((rd_T120 x0_2 x9_2).f2))) (ds := [15, 17]) ⟨hx163_0, hx163_1, hx163_2, hx164_0, hx164_1, hx164_2⟩ (fun hHeld => ?_); refine with_tabW api_Write_115.tab6 api_Write_115.bits6 (fun HT_ HW_ => ?_)
            generalize w18.drew = w19 at HO_0 HK HB GG14 HQ20 HQ21 hf14_0 hf14_1 hf14_2 hf15_0 hf15_1 hf15_2 hx14_0 hx14_1 hx14_2 hx15_0 hx15_1 hx15_2 hx160_0 hx160_1 hx160_2 hx161_0 hx161_1 hx161_2 hx163_0 hx163_1 hx163_2 hx164_0 hx164_1 hx164_2 hHeld ⊢
            refine pq_ 0 (some 37) rfl rfl ?_
            refine pq_ 1 (some 38) rfl rfl ?_
            refine pq_ 2 (some 39) rfl rfl ?_
            refine pq_ 3 (some 40) rfl rfl ?_
            refine pq_ 4 (some 41) rfl rfl ?_
            refine pq_ 5 (some 42) rfl rfl ?_
            refine pq_ 6 (some 43) rfl rfl ?_
            refine pq_ 7 (some 44) rfl rfl ?_
            refine pq_ 8 (some 45) rfl rfl ?_
            refine pq_ 10 (some 47) rfl rfl ?_
            refine pq_ 11 (some 48) rfl rfl ?_
            refine pq_ 12 (some 49) rfl rfl ?_
            refine tq_ 9 (some 46) rfl rfl hHeld ?_
            refine tq_ 13 (some 50) rfl rfl hHeld ?_
            refine pq_ 14 (some 51) rfl rfl ?_
            refine lq_ 15 (none) rfl rfl (fun K hK => ?_)
            refine skip_ (w1 := ?_) (by rfl) rfl ?_ ?_
            rotate_left
            ·go_simp
             rfl
            refine hK.out _ _ ?_
            clear hK K
            have hkK_ : Aside0 (Kept _ (World.setCells w19 go14 (((x9_2 : Int)).toNat * k120.sz + 0) [.int .i64 ((rd_T120 x0_2 (ji9)).f0), .int .i64 ((rd_T120 x0_2 (ji9)).f1), .string ((rd_T120 x0_2 (ji9)).f2)]) _) := ⟨(Kept.setCell (Kept.setCell (Kept.setCell HK.out HMgo14.out _) HMgo14.out _) HMgo14.out _)⟩
            have hkB_ : Aside0 (Below _ _ (World.setCells w19 go14 (((x9_2 : Int)).toNat * k120.sz + 0) [.int .i64 ((rd_T120 x0_2 (ji9)).f0), .int .i64 ((rd_T120 x0_2 (ji9)).f1), .string ((rd_T120 x0_2 (ji9)).f2)])) := ⟨(below_set (below_set (below_set HB.out GB14.out) GB14.out) GB14.out)⟩
            show wpAnyLast _ _ _ _ _ _ _ _ _ (World.setCells w19 go14 (((x9_2 : Int)).toNat * k120.sz + 0) [.int .i64 ((rd_T120 x0_2 (ji9)).f0), .int .i64 ((rd_T120 x0_2 (ji9)).f1), .string ((rd_T120 x0_2 (ji9)).f2)])
            generalize (World.setCells w19 go14 (((x9_2 : Int)).toNat * k120.sz + 0) [.int .i64 ((rd_T120 x0_2 (ji9)).f0), .int .i64 ((rd_T120 x0_2 (ji9)).f1), .string ((rd_T120 x0_2 (ji9)).f2)]) = wS_ at hkK_ hkB_ HQ20 HQ21 hx15_0 hx15_1 hx15_2 hf15_0 hf15_1 hf15_2 ⊢
            clear HK HB
            have HK := hkK_
            have HB := hkB_
            clear hkK_ hkB_ hHeld
            refine pq_ 16 (some 52) rfl rfl ?_
            refine lq_ 17 (none) rfl rfl (fun K hK => ?_)
            refine skip_ (w1 := ?_) (by rfl) rfl ?_ ?_
            rotate_left
            ·go_simp
             rfl
            refine hK.out _ _ ?_
            clear hK K
            refine done_ (done_of HT_.out z6_) ?_
            try go_wp2
            go_roundg k2
            case measure => have := HK1.out; have := HK2.out; omega
            case rel => exact ⟨(y166), (ji9), (by first | rfl | (simp; done) | (simp only [← hji9] <;> (first | rfl | simp)) | (simp [*]; done)), H', ⟨z80_⟩, ⟨by (with_reducible repeat (first | apply Kd.R_alloc | apply Kd.R_drewN | apply Kd.R_drew)); exact HQ21.out⟩, ⟨by repeat (first | (with_reducible first | exact HK.out | apply Kept.alloc | apply Kept.drewN | apply Kept.drew | refine Kept.setCell ?_ HMgo14.out _ | refine Kept.setCell ?_ HMgo14.out _ | refine Kept.setCell ?_ HMgo14.out _ | refine Kept.setCell ?_ HMgo14.out _ | refine Kept.setCell ?_ HMgo14.out _ | refine Kept.setCell ?_ HMgo14.out _) | exact HK.out)⟩, ⟨by repeat (first | (with_reducible first | exact HB.out | apply below_alloc | apply pw_below_drewN | apply below_drew1 | refine below_set ?_ GB14.out | refine below_set ?_ GB14.out | refine below_set ?_ GB14.out | refine below_set ?_ GB14.out | refine below_set ?_ GB14.out | refine below_set ?_ GB14.out) | exact HB.out)⟩⟩
           ·rw [if_neg c13] at H
            have c13b0 : decide (t162 < 0) = false := decide_eq_false c13
            clear c13
            have H' := a0_ H
            clear H
            try go_wp2
            have n0_ := a0_ (Kd.R_drew HO_0.out)
            have n1_ := a0_ (Kept.drew HK.out)
            have n2_ := a0_ (below_drew1 HB.out)
            clear HO_0
            clear HK
            clear HB
            have HO_0 := n0_
            have HK := n1_
            have HB := n2_
            clear n0_ n1_ n2_
            obtain ⟨Ao23, co23, eo23⟩ := Kd.R_slice HO_0.out
            (first | subst eo23 | (injection eo23 with f1_ f2_ f3_; have f4_ := f1_.symm; have f5_ := f3_.symm; clear f1_ f2_ f3_; subst f4_; subst f5_))
            have p160 : 0 ≤ (x9_2 : Int) := of_decide_eq_true z10_
            have q160 : x9_2 < (x0_2.length : Int) := of_decide_eq_true z10_
            obtain ⟨ad160, e160, hx160_0, hx160_1, hx160_2⟩ := at_T120 (Kd.R_reads' HO_0.out).2.2 x9_2 p160 q160
            cases e160
            replace p160 := eq_true p160
            replace q160 := eq_true q160
            have p161 : 0 ≤ ((ji9) : Int) := of_decide_eq_true z10_
            have q161 : (ji9) < (x0_2.length : Int) := of_decide_eq_true z10_
            obtain ⟨ad161, e161, hx161_0, hx161_1, hx161_2⟩ := at_T120 (Kd.R_reads' HO_0.out).2.2 (ji9) p161 q161
            obtain rfl : ad160 = ad161 := (by injection e161)
            replace p161 := eq_true p161
            replace q161 := eq_true q161
            refine st_ 17 (S := fun w' => w'.cell? (ad160.add ((x9_2).toNat * 3)) = some (.int .i64 ((rd_T120 x0_2 x9_2).f0)) ∧ w'.cell? ⟨(ad160.add ((x9_2).toNat * 3)).block, (ad160.add ((x9_2).toNat * 3)).off + 1, none⟩ = some (.int .i64 ((rd_T120 x0_2 x9_2).f1)) ∧ w'.cell? ⟨(ad160.add ((x9_2).toNat * 3)).block, (ad160.add ((x9_2).toNat * 3)).off + 2, none⟩ = some (.string ((rd_T120 x0_2 x9_2).f2)) ∧ w'.cell? (ad160.add (((ji9)).toNat * 3)) = some (.int .i64 ((rd_T120 x0_2 (ji9)).f0)) ∧ w'.cell? ⟨(ad160.add (((ji9)).toNat * 3)).block, (ad160.add (((ji9)).toNat * 3)).off + 1, none⟩ = some (.int .i64 ((rd_T120 x0_2 (ji9)).f1)) ∧ w'.cell? ⟨(ad160.add (((ji9)).toNat * 3)).block, (ad160.add (((ji9)).toNat * 3)).off + 2, none⟩ = some (.string ((rd_T120 x0_2 (ji9)).f2))) (ds := []) ⟨hx160_0, hx160_1, hx160_2, hx161_0, hx161_1, hx161_2⟩ (fun hHeld => ?_); refine with_tabW api_Write_115.tab4 api_Write_115.bits4 (fun HT_ HW_ => ?_)
            generalize wr.drew = w22 at HO_0 HK HB hx160_0 hx160_1 hx160_2 hx161_0 hx161_1 hx161_2 hHeld ⊢
            refine pq_ 0 (some 18) rfl rfl ?_
            refine pq_ 1 (some 19) rfl rfl ?_
            refine pq_ 2 (some 20) rfl rfl ?_
            refine pq_ 3 (some 21) rfl rfl ?_
            refine pq_ 4 (some 22) rfl rfl ?_
            refine pq_ 5 (some 23) rfl rfl ?_
            refine pq_ 6 (some 24) rfl rfl ?_
            refine pq_ 7 (some 25) rfl rfl ?_
            refine pq_ 9 (some 27) rfl rfl ?_
            refine pq_ 10 (some 28) rfl rfl ?_
            refine pq_ 11 (some 29) rfl rfl ?_
            refine pq_ 12 (some 30) rfl rfl ?_
            refine tq_ 8 (some 26) rfl rfl hHeld ?_
            refine tq_ 13 (some 31) rfl rfl hHeld ?_
            refine oq_ 14 (some 32) rfl rfl (fun K hK => ?_)
            refine goesF_ Try.func93 z6_ rfl #[.agg #[.int .i64 ((rd_T120 x0_2 x9_2).f0), .int .i64 ((rd_T120 x0_2 x9_2).f1), .string ((rd_T120 x0_2 x9_2).f2)], .agg #[.int .i64 ((rd_T120 x0_2 (ji9)).f0), .int .i64 ((rd_T120 x0_2 (ji9)).f1), .string ((rd_T120 x0_2 (ji9)).f2)]] (by rfl) rfl rfl z79_ ?_
            with_reducible refine (fold_order.calls k2 ((rd_T120 x0_2 x9_2).f0) ((rd_T120 x0_2 x9_2).f1) ((rd_T120 x0_2 x9_2).f2) ((rd_T120 x0_2 (ji9)).f0) ((rd_T120 x0_2 (ji9)).f1) ((rd_T120 x0_2 (ji9)).f2) t162 _ A12.out).mono ?_
            rintro e w24 ⟨rfl, hb⟩
            have HS0_ := (hb.cell (World.block_lt_of_cell? _ _ (hHeld.1))).trans (hHeld.1)
            have HS1_ := (hb.cell (World.block_lt_of_cell? _ _ (hHeld.2.1))).trans (hHeld.2.1)
            have HS2_ := (hb.cell (World.block_lt_of_cell? _ _ (hHeld.2.2.1))).trans (hHeld.2.2.1)
            have HS3_ := (hb.cell (World.block_lt_of_cell? _ _ (hHeld.2.2.2.1))).trans (hHeld.2.2.2.1)
            have HS4_ := (hb.cell (World.block_lt_of_cell? _ _ (hHeld.2.2.2.2.1))).trans (hHeld.2.2.2.2.1)
            have HS5_ := (hb.cell (World.block_lt_of_cell? _ _ (hHeld.2.2.2.2.2))).trans (hHeld.2.2.2.2.2)
            refine ⟨_, rfl, ?_⟩
            have n0_ := a0_ (Kd.R_below z78_ hb)
            have n1_ := a0_ (Kept.below (S := (fun k_ => P0_ k_)) z77_ hb)
            have n2_ := a0_ (below_step z3_ hb)
            clear HO_0
            clear HK
            clear HB
            have HO_0 := n0_
            have HK := n1_
            have HB := n2_
            clear n0_ n1_ n2_
            (try clear hb)
            (try clear hb2)
            (try clear hk)
            (try clear hi)
            refine hK.out _ _ ⟨HS0_, HS1_, HS2_, HS3_, HS4_, HS5_⟩ (fun hHeld => ?_)
            clear hK K
            refine norm_ (a' := ?_) ?_ ?_
            rotate_left
            ·show Act.put _ (some 32) _ = _
             exact put_
            refine pq_ 15 (some 33) rfl rfl ?_
            refine pq_ 16 (some 34) rfl rfl ?_
            refine done_ (done_of HT_.out z6_) ?_
            try go_wp2
            go_roundg k2
            case measure => have := HK1.out; have := HK2.out; omega
            case rel => exact ⟨(x0_2), (wrap64 (x8_1 + 1)), z4_, H', ⟨z80_⟩, ⟨z78_⟩, ⟨z77_⟩, ⟨z3_⟩⟩
          ·rw [if_neg c11] at H
           exact absurd H (by simp)
         ·rw [if_neg c10] at H
          exact absurd H (by simp)
        ·rw [if_neg c8] at H
         exact absurd H (by simp)
       ·rw [if_neg c7] at H
        exact absurd H (by simp)
      ·rw [if_neg c6] at H
       have c6b0 : decide (a1 < x9_2) = false := decide_eq_false c6
       clear c6
       have H' := a0_ H
       clear H
       try go_wp2
       have n0_ := a0_ (Kd.R_drew HO_0.out)
       have n1_ := a0_ (Kept.drew HK.out)
       have n2_ := a0_ (below_drew1 HB.out)
       clear HO_0
       clear HK
       clear HB
       have HO_0 := n0_
       have HK := n1_
       have HB := n2_
       clear n0_ n1_ n2_
       refine st_ 17 (S := fun w' => True) (ds := []) trivial (fun hHeld => ?_); refine with_tabW api_Write_115.tab4 api_Write_115.bits4 (fun HT_ HW_ => ?_)
       generalize wr.drew = w25 at HO_0 HK HB hHeld ⊢
       refine pq_ 0 (some 18) rfl rfl ?_
       refine pq_ 1 (some 19) rfl rfl ?_
       refine pq_ 2 (some 20) rfl rfl ?_
       refine pq_ 3 (some 21) rfl rfl ?_
       refine pw_ 4 (some 22) rfl rfl ?_
       refine pw_ 5 (some 23) rfl rfl ?_
       refine pw_ 6 (some 24) rfl rfl ?_
       refine pw_ 7 (some 25) rfl rfl ?_
       refine pw_ 8 (some 26) rfl rfl ?_
       refine pw_ 9 (some 27) rfl rfl ?_
       refine pw_ 10 (some 28) rfl rfl ?_
       refine pw_ 11 (some 29) rfl rfl ?_
       refine pw_ 12 (some 30) rfl rfl ?_
       refine pw_ 13 (some 31) rfl rfl ?_
       refine pw_ 14 (some 32) rfl rfl ?_
       refine pw_ 15 (some 33) rfl rfl ?_
       refine pq_ 16 (some 34) rfl rfl ?_
       refine done_ (done_of HT_.out z6_) ?_
       try go_wp2
       go_roundg k2
       case measure => have := HK1.out; have := HK2.out; omega
       case rel => exact ⟨(x0_2), (wrap64 (x8_1 + 1)), z4_, H', ⟨z80_⟩, ⟨z78_⟩, ⟨z77_⟩, ⟨z3_⟩⟩
   ·rw [if_neg c5] at H
    have c5b0 : decide (x8_1 < a2) = false := decide_eq_false c5
    clear c5
    obtain rfl := Option.some.inj H
    go_wp2
    first | go_end0 | ((try simp only [Exit.inBlock, Exit.then]); refine bodyPost_ret (results_none rfl _ _ _) rfl ?_)
    exact ⟨z2_, z78_, z3_, z77_⟩
end Go.Proofs.Ytecfndblgefhdaa.R
