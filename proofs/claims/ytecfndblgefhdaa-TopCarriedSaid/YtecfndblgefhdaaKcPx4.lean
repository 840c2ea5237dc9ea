import Derived.Test.YtecfndblgefhdaaKcPx3
namespace Go.Proofs.Ytecfndblgefhdaa.P
open Go.RowKit Go.Proofs.YtecfndblgefhdaaW.PrintWords Go.Proofs.YtecfndblgefhdaaW.PrintLast Go.Proofs.YtecfndblgefhdaaW.PrintMore
attribute [local go_sem] max2_int min2_int max_two min_two max_three min_three max_four min_four
set_option linter.unusedVariables false
set_option linter.unusedSimpArgs false
mutual
def vols_Blank.j0 : Nat → List Int → Bool → Option ((List (S137)) × Int)
 | 0, _, _ => none
 | k + 1, x0, x14 => if x14 = true then (some (([] : List (S137)), 1)) else (vols_Blank.l0 k x0 ([] : List (S137)) 0)
def vols_Blank.l0 : Nat → List Int → List (S137) → Int → Option ((List (S137)) × Int)
 | 0, _, _, _ => none
 | k + 1, x0, x4, x5 => if x5 < (x0.length : Int) then (if 0 ≤ (wrap64 (x5 + 1)) then (if (wrap64 (x5 + 1)) < (x0.length : Int) then ((vols_size.f (rd x0 (wrap64 (x5 + 1)))).bind fun t130 => (if t130 = true then (if 0 ≤ x5 then (if 0 ≤ (rd x0 (wrap64 (x5 + 1))) then (if (rd x0 (wrap64 (x5 + 1)) : Int).toNat ≤ 17592186044416 then (if x4.length < 4398046511104 then (vols_Blank.l0 k x0 (x4 ++ [(⟨rd x0 x5, (List.replicate (rd x0 (wrap64 (x5 + 1)) : Int).toNat (⟨#[]⟩ : ByteArray))⟩ : S137)]) (wrap64 (x5 + 2))) else (none)) else (none)) else (none)) else (none)) else (some (([] : List (S137)), 1)))) else (none)) else (none)) else ((vols_Right.f k x4).bind fun t139 => (if t139 = true then (some (x4, 0)) else (some (([] : List (S137)), 1))))
end
def vols_Blank.f (k : Nat) (l0 : List Int) : Option ((List (S137)) × Int) := if ((l0.length : Int) % 2) = 0 then (vols_Blank.j0 k l0 (decide ((l0.length : Int) > 8))) else (vols_Blank.j0 k l0 true)
def vols_Blank.T9 : Bool × List (List Nat × List Nat) := (true, [([], []), ([], []), ([], []), ([1, 2], [1, 2]), ([3], [3]), ([], []), ([], []), ([6], [6]), ([5, 7], [5, 7]), ([8], [8]), ([9, 9], [9]), ([4, 10], [4, 10]), ([11], [11]), ([0, 12], [0, 12]), ([13, 13, 0, 1, 2, 3, 4, 5, 6, 7, 8, 9, 10, 11, 12, 13], [0, 13])])
def vols_Blank.B9 : List Nat := [0, 0, 0, 6, 14, 0, 0, 64, 224, 480, 992, 2046, 4094, 8191, 16383]
theorem vols_Blank.tab9 : rtab .any (opsOf Try.f77 9) = vols_Blank.T9 := by kernel_rfl
theorem vols_Blank.bits9 : waitsOk vols_Blank.T9.2 vols_Blank.B9 = true := by kernel_rfl
set_option maxHeartbeats 8000000 in
set_option maxRecDepth 100000 in
theorem vols_Blank.calls (k : Nat) (A0 : Option Addr) (c0 : Nat) (l0 : List Int) (r1 : List (S137)) (r2 : Int) (w : World) (hr0 : Kd.C (Kd.int .i64) w A0 l0.length l0) (hc0 : l0.length ≤ c0) (h : vols_Blank.f k l0 = some (r1, r2)) :
  Calls Try.prog 77 #[.slice A0 l0.length c0] w fun e w' => ∃ v0_ : Value, e = .returned (.tuple #[v0_, .int .i64 r2]) ∧ Kd.S k137 137 w' w.heap.size (fun _ => True) v0_ r1 ∧ Below w.heap.size w w' := by
 have hu137 := Try.underlying137
 have HR0 := a0_ hr0
 have HC0 := a0_ hc0
 clear hr0 hc0
 have HB := a0_ (Below.refl w.heap.size w)
 have H : (if ((l0.length : Int) % 2) = 0 then (vols_Blank.j0 k l0 (decide ((l0.length : Int) > 8))) else (vols_Blank.j0 k l0 true)) = some (r1, r2) := h
 clear h
 have HC2 := a0_ H
 clear H
 go_enter Try.func77, Try.ntmps77
 go_upto_region 1 with (fail)
 go_cut [14] (fun v14 wc => ∃ (kq : Nat) (x14_1 : Bool), v14 = .bool x14_1 ∧ Aside0 (vols_Blank.j0 kq l0 x14_1 = some (r1, r2)) ∧ Aside0 (kq ≤ k) ∧ Aside0 (Below w.heap.size w wc))
 case first =>
  have H := HC2.out
  clear HC2
  by_cases c3 : ((l0.length : Int) % 2) = 0
  ·rw [if_pos c3] at H
   have c3b0 : (((l0.length : Int) % 2) == 0) = true := beq_iff_eq.mpr c3
   have c3b1 : (((l0.length : Int) % 2) != 0) = false := bne_eq_false_iff_eq.mpr c3
   clear c3
   (first | rw [c3b0] | (simp only [i64_w, i32_w]; rw [c3b0]) | skip)
   have H' := a0_ H
   clear H
   go_wp2
   go_meet
   case rel => exact ⟨_, (decide ((l0.length : Int) > 8)), z9_, H', ⟨z18_⟩, ⟨z6_⟩⟩
  ·rw [if_neg c3] at H
   have c3b0 : (((l0.length : Int) % 2) == 0) = false := beq_eq_false_iff_ne.mpr c3
   have c3b1 : (((l0.length : Int) % 2) != 0) = true := bne_iff_ne.mpr c3
   (first | rw [c3b0] | (simp only [i64_w, i32_w]; rw [c3b0]) | skip)
   have H' := a0_ H
   clear H
   go_wp2
   go_meet
   case rel => exact ⟨_, (true), z9_, H', ⟨z18_⟩, ⟨z6_⟩⟩
 case rest =>
  clear HC2
  obtain ⟨kq, x14_1, rfl, HA, HJ1, HB⟩ := hcut
  cases kq with
  | zero => exact absurd HA.out (by simp [vols_Blank.j0])
  | succ kj1 =>
   have H := HA.out
   clear HA
   simp only [vols_Blank.j0] at H
   by_cases c4 : x14_1 = true
   ·subst c4
    rw [if_pos rfl] at H
    simp only [Option.some.injEq, Prod.mk.injEq] at H
    obtain ⟨rfl, rfl⟩ := H
    go_wp2
    go_ret2
    exact ⟨_, z3_, z39_, z6_⟩
   ·replace c4 := Bool.eq_false_iff.mpr c4
    subst c4
    rw [if_neg (show ¬ (false = true) from z17_)] at H
    have H' := a0_ H
    clear H
    go_wp2
    go_loopg [4, 5] kj1 (fun kq v4 v5 w' => ∃ (x4_2 : List (S137)) (x5_2 : Int), v5 = .int .i64 x5_2 ∧ Aside0 (vols_Blank.l0 kq l0 x4_2 x5_2 = some (r1, r2)) ∧ Aside0 (kq ≤ kj1) ∧ Aside0 (Kd.S k137 137 w' w.heap.size (fun _ => True) v4 x4_2) ∧ Aside0 (Below w.heap.size w w'))
    case atStart => exact ⟨(([] : List (S137))), (0), z9_, H', ⟨Nat.le_refl _⟩, ⟨z39_⟩, ⟨z6_⟩⟩
    case round =>
     clear H'
     obtain ⟨x4_2, x5_2, rfl, HA, HK2, HO_4, HB⟩ := hrel
     cases gk with
     | zero => exact absurd HA.out (by simp [vols_Blank.l0])
     | succ k2 =>
      have H := HA.out
      clear HA
      simp only [vols_Blank.l0] at H
      by_cases c5 : x5_2 < (l0.length : Int)
      ·rw [if_pos c5] at H
       have c5b0 : decide (x5_2 < (l0.length : Int)) = true := decide_eq_true c5
       clear c5
       obtain ⟨ji6, hji6⟩ : ∃ j_ : Int, (wrap64 (x5_2 + 1)) = j_ := ⟨_, rfl⟩
       replace H : (if 0 ≤ (ji6) then (if (ji6) < (l0.length : Int) then ((vols_size.f (rd l0 (ji6))).bind fun t130 => (if t130 = true then (if 0 ≤ x5_2 then (if 0 ≤ (rd l0 (ji6)) then (if (rd l0 (ji6) : Int).toNat ≤ 17592186044416 then (if x4_2.length < 4398046511104 then (vols_Blank.l0 k2 l0 (x4_2 ++ [(⟨rd l0 x5_2, (List.replicate (rd l0 (ji6) : Int).toNat (⟨#[]⟩ : ByteArray))⟩ : S137)]) (wrap64 (x5_2 + 2))) else (none)) else (none)) else (none)) else (none)) else (some (([] : List (S137)), 1)))) else (none)) else (none)) = some (r1, r2) := by first | (rw [hji6] at H; exact H) | (simp only [hji6] at H ⊢; exact H)
       have hji6w : (IntKind.i64.wrap (x5_2 + 1)) = ji6 := (i64_w _).trans hji6
       by_cases c7 : 0 ≤ (ji6)
       ·rw [if_pos c7] at H
        have c7b0 : decide (0 ≤ (ji6)) = true := decide_eq_true c7
        clear c7
        by_cases c8 : (ji6) < (l0.length : Int)
        ·rw [if_pos c8] at H
         have c8b0 : decide ((ji6) < (l0.length : Int)) = true := decide_eq_true c8
         clear c8
         replace H := Option.bind_eq_some_iff.mp H
         obtain ⟨t130, A90, H⟩ := H
         try dsimp only at H
         have A9 := a0_ A90
         clear A90
         by_cases c10 : t130 = true
         ·subst c10
          rw [if_pos rfl] at H
          by_cases c11 : 0 ≤ x5_2
          ·rw [if_pos c11] at H
           have c11b0 : decide (0 ≤ x5_2) = true := decide_eq_true c11
           clear c11
           by_cases c12 : 0 ≤ (rd l0 (ji6))
           ·rw [if_pos c12] at H
            have c12b0 := eq_true c12
            have c12b1 : decide (0 ≤ (rd l0 (ji6))) = true := decide_eq_true c12
            clear c12
            by_cases c13 : (rd l0 (ji6) : Int).toNat ≤ 17592186044416
            ·rw [if_pos c13] at H
             have c13b0 := eq_true c13
             have c13b1 : decide ((rd l0 (ji6) : Int).toNat ≤ 17592186044416) = true := decide_eq_true c13
             clear c13
             obtain ⟨y133, hy133⟩ : ∃ y_ : List ByteArray, y_ = (List.replicate (rd l0 (ji6) : Int).toNat (⟨#[]⟩ : ByteArray)) := ⟨_, rfl⟩
             replace H : (if x4_2.length < 4398046511104 then (vols_Blank.l0 k2 l0 (x4_2 ++ [(⟨rd l0 x5_2, y133⟩ : S137)]) (wrap64 (x5_2 + 2))) else (none)) = some (r1, r2) := by first | (rw [hy133]; with_reducible exact H) | (have H2_ := (Option.bind_some _ _).symm.trans H; rw [hy133]; with_reducible exact H2_) | (have H2_ := (Option.bind_some _ _).symm.trans H; with_reducible exact H2_) | with_reducible exact H | (rw [hy133]; exact H) | exact H
             have Ny133 := a0_ hy133
             clear hy133
             by_cases c14 : x4_2.length < 4398046511104
             ·rw [if_pos c14] at H
              have LMc14 := a0_ c14
              clear c14
              obtain ⟨y136, hy136⟩ : ∃ y_ : List (S137), y_ = (x4_2 ++ [(⟨rd l0 x5_2, y133⟩ : S137)]) := ⟨_, rfl⟩
              replace H : (vols_Blank.l0 k2 l0 y136 (wrap64 (x5_2 + 2))) = some (r1, r2) := by first | (rw [hy136]; with_reducible exact H) | (have H2_ := (Option.bind_some _ _).symm.trans H; rw [hy136]; with_reducible exact H2_) | (have H2_ := (Option.bind_some _ _).symm.trans H; with_reducible exact H2_) | with_reducible exact H | (rw [hy136]; exact H) | exact H
              have Ny136 := a0_ hy136
              clear hy136
              have H' := a0_ H
              clear H
              have p129 : 0 ≤ ((ji6) : Int) := of_decide_eq_true z19_
              have q129 : (ji6) < (l0.length : Int) := of_decide_eq_true z19_
              obtain ⟨ad129, e129, hx129_0⟩ := Kd.at_int HR0.out (ji6) p129 q129
              cases e129
              replace hx129_0 := (HB.out.cell (World.block_lt_of_cell? w _ hx129_0)).trans hx129_0
              replace p129 := eq_true p129
              replace q129 := eq_true q129
              try go_wp2_with (first | ((with_reducible refine gate_callee (f := 82) rfl ?_); refine goesL_ (some 26) rfl rfl Try.func82 z11_ rfl #[.int .i64 (rd l0 (ji6))] rfl z40_ ?_; (with_reducible refine (vols_size.calls (rd l0 (ji6)) true _ A9.out).mono ?_); rintro e w' ⟨rfl, ⟨nd, rfl⟩⟩; refine ⟨_, rfl, ?_⟩))
              (try (rw [drewN_self wr]; generalize hq_ : World.drewN wr _ = wr; have n0_ : Aside0 (Kd.S k137 137 wr w.heap.size (fun _ => True) u4 x4_2) := ⟨by rw [← hq_]; exact z41_⟩; have n1_ : Aside0 (Below w.heap.size w wr) := ⟨by rw [← hq_]; exact z6_⟩; clear HO_4 HB hq_; have HO_4 := n0_; have HB := n1_; clear n0_ n1_))
              have n0_ := a0_ (Kd.S_drew HO_4.out)
              have n1_ := a0_ (below_drew1 HB.out)
              clear HO_4
              clear HB
              have HO_4 := n0_
              have HB := n1_
              clear n0_ n1_
              have p131 : 0 ≤ (x5_2 : Int) := of_decide_eq_true z19_
              have q131 : x5_2 < (l0.length : Int) := of_decide_eq_true z19_
              obtain ⟨ad131, e131, hx131_0⟩ := Kd.at_int HR0.out x5_2 p131 q131
              have hw131_0 := hx131_0
              obtain rfl : ad129 = ad131 := (by injection e131)
              replace hx131_0 := (HB.out.cell (World.block_lt_of_cell? w _ hx131_0)).trans hx131_0
              replace p131 := eq_true p131
              replace q131 := eq_true q131
              have p132 : 0 ≤ ((ji6) : Int) := of_decide_eq_true z19_
              have q132 : (ji6) < (l0.length : Int) := of_decide_eq_true z19_
              obtain ⟨ad132, e132, hx132_0⟩ := Kd.at_int HR0.out (ji6) p132 q132
              have hw132_0 := hx132_0
              obtain rfl : ad129 = ad132 := (by injection e132)
              replace hx132_0 := (HB.out.cell (World.block_lt_of_cell? w _ hx132_0)).trans hx132_0
              replace p132 := eq_true p132
              replace q132 := eq_true q132
              refine st_ 15 (S := fun w' => w'.cell? (ad129.add (x5_2).toNat) = some (.int .i64 (rd l0 x5_2)) ∧ w'.cell? (ad129.add ((ji6)).toNat) = some (.int .i64 (rd l0 (ji6)))) (ds := []) ⟨((HB.out.cell (World.block_lt_of_cell? w _ hw131_0)).trans hw131_0), ((HB.out.cell (World.block_lt_of_cell? w _ hw132_0)).trans hw132_0)⟩ (fun hHeld => ?_); refine with_tabW vols_Blank.tab9 vols_Blank.bits9 (fun HT_ HW_ => ?_)
              generalize wr.drew = w15 at HO_4 HB hx131_0 hx132_0 hHeld ⊢
              refine pq_ 0 (some 28) rfl rfl ?_
              refine pq_ 1 (some 29) rfl rfl ?_
              refine pq_ 2 (some 30) rfl rfl ?_
              refine pq_ 3 (some 31) rfl rfl ?_
              refine pq_ 5 (some 33) rfl rfl ?_
              refine pq_ 6 (some 34) rfl rfl ?_
              refine pq_ 7 (some 35) rfl rfl ?_
              refine pq_ 8 (some 36) rfl rfl ?_
              refine tq_ 4 (some 32) rfl rfl hHeld ?_
              refine tq_ 9 (some 37) rfl rfl hHeld ?_
              refine oq_ 10 (some 38) rfl rfl (fun K hK => ?_)
              refine Kd.R_make_step Kd.string _ 9 (by rfl) (N := 38) rfl 24 _ _ rfl (rd l0 (ji6)) rfl rfl Try.underlying24 (.string ⟨#[]⟩) 16 info9 rfl z17_ z2_ (⟨#[]⟩ : ByteArray) (ok := fun _ => True) (okp := fun _ => True) rfl (fun _ hk => hk) trivial (of_decide_eq_true z19_) (Nat.le_trans (Nat.mul_le_mul_right _ (of_decide_eq_true z19_ : (rd l0 (ji6)).toNat ≤ 17592186044416)) z2_) (Below.refl _ _) (Nat.le_refl _) ?_
              intro v134 w16 ho17 hb hg_ hnew_
              clear hg_ hnew_
              (first | rw [← Ny133.out] at ho17 | (simp only [Int.reduceToNat] at ho17; rw [← Ny133.out] at ho17))
              have n0_ := a0_ (Kd.S_elder' z41_ (Kd.R_base ho17) hb)
              have n1_ := a0_ (Kd.R_lower ho17 (below_size z6_))
              have n2_ := a0_ (below_step z6_ hb)
              clear HO_4
              clear HB
              have HO_4 := n0_
              have HO135 := n1_
              have HB := n2_
              clear n0_ n1_ n2_
              clear hb ho17
              obtain ⟨Ao18, co18, eo18⟩ := Kd.R_slice HO135.out
              (first | subst eo18 | (injection eo18 with f1_ f2_ f3_; have f4_ := f1_.symm; have f5_ := f3_.symm; clear f1_ f2_ f3_; subst f4_; subst f5_))
              refine hK.out _ _ ⟨((HB.out.cell (World.block_lt_of_cell? w _ hw131_0)).trans hw131_0), ((HB.out.cell (World.block_lt_of_cell? w _ hw132_0)).trans hw132_0)⟩ (fun hHeld => ?_)
              clear hK K
              refine norm_ (a' := ?_) ?_ ?_
              rotate_left
              ·show Act.put _ (some 38) _ = _
               exact put_
              refine pq_ 11 (some 39) rfl rfl ?_
              refine oq_ 12 (some 40) rfl rfl (fun K hK => ?_)
              refine value_ (w1 := ?_) (v := ?_) (by rfl) rfl ?_ ?_
              rotate_left 2
              ·go_simp
               constructor
               ·rfl
               ·rfl
              refine hK.out _ _ ⟨(World.cell?_alloc_lt _ _ _ (World.block_lt_of_cell? _ _ (((HB.out.cell (World.block_lt_of_cell? w _ hw131_0)).trans hw131_0)))).trans (((HB.out.cell (World.block_lt_of_cell? w _ hw131_0)).trans hw131_0)), (World.cell?_alloc_lt _ _ _ (World.block_lt_of_cell? _ _ (((HB.out.cell (World.block_lt_of_cell? w _ hw132_0)).trans hw132_0)))).trans (((HB.out.cell (World.block_lt_of_cell? w _ hw132_0)).trans hw132_0))⟩ (fun hHeld => ?_)
              clear hK K
              refine norm_ (a' := ?_) ?_ ?_
              rotate_left
              ·show Act.put _ (some 40) _ = _
               exact put_
              refine oq_ 13 (some 41) rfl rfl (fun K hK => ?_)
              refine Kd.S_append_step k137 (w0 := w) w.heap.size (by rfl) (.tmp 28) (.tmp 40) 59 137 (.agg #[(.int .i64 0), (.slice none 0 0)]) 32 rfl Try.underlying59 info137 rfl z17_ z2_ u4 x4_2 (⟨rd l0 x5_2, y133⟩ : S137) [.int .i64 (rd l0 x5_2), .slice Ao18 y133.length co18] (fun _ => True) (fun k_ => some k_ = (.slice Ao18 y133.length co18 : Value).ownBlock) rfl rfl ?aP (fun k_ hk_ => ((Kd.R_mono (ok' := fun k_ => ((fun _ => True)) k_ ∧ some k_ ≠ (u4 : Value).ownBlock) (Kd.R_apart' (HO135.out) (Kd.S_typed HO_4.out) z17_) (fun k_ hk => ⟨trivial, hk.2⟩))).1 k_ hk_.symm) ?aF ?aO ?aB ?aS ?aL ?_
              (case aP => exact k137_mkM _ _ _ (⟨rd l0 x5_2, y133⟩ : S137) (Kd.R_mono (Kd.R_tight rfl (Kd.R_mono (ok' := fun k_ => ((fun _ => True)) k_ ∧ some k_ ≠ (u4 : Value).ownBlock) (Kd.R_apart' (HO135.out) (Kd.S_typed HO_4.out) z17_) (fun k_ hk => ⟨trivial, hk.2⟩))) (fun _ h_ => h_)))
              (case aB => exact z42_)
              (case aF => exact z43_)
              (case aO => exact (by (with_reducible repeat (first | apply Kd.S_alloc | apply Kd.S_drewN | apply Kd.S_drew)); exact Kd.S_mono HO_4.out (fun k_ hk => ⟨trivial, fun e_ => hk.2 e_⟩)))
              (case aS => exact z44_)
              (case aL => exact z45_)
              intro v137 w19 ho hb hg hat
              rw [← Ny136.out] at ho
              have n0_ := a0_ (hb)
              have n1_ := a0_ (ho)
              clear HB
              clear HO_4
              clear HO135
              have HB := n0_
              have HO138 := n1_
              clear n0_ n1_
              clear ho hb hg hat
              refine hK.out _ _ ⟨((HB.out.cell (World.block_lt_of_cell? w _ hw131_0)).trans hw131_0), ((HB.out.cell (World.block_lt_of_cell? w _ hw132_0)).trans hw132_0)⟩ (fun hHeld => ?_)
              clear hK K
              refine norm_ (a' := ?_) ?_ ?_
              rotate_left
              ·show Act.put _ (some 41) _ = _
               exact put_
              refine pq_ 14 (some 4) rfl rfl ?_
              refine done_ (done_of HT_.out z11_) ?_
              try go_wp2
              go_roundg k2
              case measure => have := HJ1.out; have := HK2.out; omega
              case rel => exact ⟨(y136), (wrap64 (x5_2 + 2)), z9_, H', ⟨z20_⟩, ⟨by (with_reducible repeat (first | apply Kd.S_alloc | apply Kd.S_drewN | apply Kd.S_drew)); exact HO138.out⟩, ⟨z6_⟩⟩
             ·rw [if_neg c14] at H
              exact absurd H (by simp)
            ·rw [if_neg c13] at H
             exact absurd H (by simp)
           ·rw [if_neg c12] at H
            exact absurd H (by simp)
          ·rw [if_neg c11] at H
           exact absurd H (by simp)
         ·replace c10 := Bool.eq_false_iff.mpr c10
          subst c10
          rw [if_neg (show ¬ (false = true) from z17_)] at H
          simp only [Option.some.injEq, Prod.mk.injEq] at H
          obtain ⟨rfl, rfl⟩ := H
          have p129 : 0 ≤ ((ji6) : Int) := of_decide_eq_true z19_
          have q129 : (ji6) < (l0.length : Int) := of_decide_eq_true z19_
          obtain ⟨ad129, e129, hx129_0⟩ := Kd.at_int HR0.out (ji6) p129 q129
          cases e129
          replace hx129_0 := (HB.out.cell (World.block_lt_of_cell? w _ hx129_0)).trans hx129_0
          replace p129 := eq_true p129
          replace q129 := eq_true q129
          go_wp2_with (first | ((with_reducible refine gate_callee (f := 82) rfl ?_); refine goesL_ (some 26) rfl rfl Try.func82 z11_ rfl #[.int .i64 (rd l0 (ji6))] rfl z40_ ?_; (with_reducible refine (vols_size.calls (rd l0 (ji6)) false _ A9.out).mono ?_); rintro e w' ⟨rfl, ⟨nd, rfl⟩⟩; refine ⟨_, rfl, ?_⟩))
          go_ret2
          exact ⟨_, by first | rfl | (simp [errW_none, errW_some] <;> rfl) | (simp only [← hji6]; first | rfl | (simp [errW_none, errW_some] <;> rfl)) | (simp [*, errW_none, errW_some] <;> rfl), z39_, z6_⟩
        ·rw [if_neg c8] at H
         exact absurd H (by simp)
       ·rw [if_neg c7] at H
        exact absurd H (by simp)
      ·rw [if_neg c5] at H
       have c5b0 : decide (x5_2 < (l0.length : Int)) = false := decide_eq_false c5
       clear c5
       replace H := Option.bind_eq_some_iff.mp H
       obtain ⟨t139, A200, H⟩ := H
       try dsimp only at H
       have A20 := a0_ A200
       clear A200
       by_cases c21 : t139 = true
       ·subst c21
        rw [if_pos rfl] at H
        simp only [Option.some.injEq, Prod.mk.injEq] at H
        obtain ⟨rfl, rfl⟩ := H
        obtain ⟨Ao22, co22, eo22⟩ := Kd.S_slice HO_4.out
        subst eo22
        go_wp2_with (first | ((with_reducible refine gate_callee (f := 44) rfl ?_); refine goesL_ (some 43) rfl rfl Try.func44 z11_ rfl #[.slice Ao22 x4_2.length co22] rfl z12_ ?_; (with_reducible refine (vols_Right.calls k2 _ _ x4_2 true _ ?side1 ?side2 A20.out).mono ?_); (case side1 => exact z46_); (case side2 => exact (Kd.S_reads' HO_4.out).2.1); rintro e w23 ⟨rfl, hb⟩; refine ⟨_, rfl, ?_⟩; replace HO_4 := a0_ (Kd.S_below z41_ hb); replace HB := a0_ (below_step z6_ hb); (try clear hb); (try clear hb2); (try clear hk); (try clear hi)))
        go_ret2
        exact ⟨_, z3_, z41_, z6_⟩
       ·replace c21 := Bool.eq_false_iff.mpr c21
        subst c21
        rw [if_neg (show ¬ (false = true) from z17_)] at H
        simp only [Option.some.injEq, Prod.mk.injEq] at H
        obtain ⟨rfl, rfl⟩ := H
        obtain ⟨Ao24, co24, eo24⟩ := Kd.S_slice HO_4.out
        subst eo24
        go_wp2_with (first | ((with_reducible refine gate_callee (f := 44) rfl ?_); refine goesL_ (some 43) rfl rfl Try.func44 z11_ rfl #[.slice Ao24 x4_2.length co24] rfl z12_ ?_; (with_reducible refine (vols_Right.calls k2 _ _ x4_2 false _ ?side1 ?side2 A20.out).mono ?_); (case side1 => exact z46_); (case side2 => exact (Kd.S_reads' HO_4.out).2.1); rintro e w25 ⟨rfl, hb⟩; refine ⟨_, rfl, ?_⟩; replace HO_4 := a0_ (Kd.S_below z41_ hb); replace HB := a0_ (below_step z6_ hb); (try clear hb); (try clear hb2); (try clear hk); (try clear hi)))
        go_ret2
        exact ⟨_, z3_, z39_, z6_⟩
def msg_number.f (a0 : Int) : Option (Bool) := if a0 ≥ 0 then (some (decide (a0 ≤ 1099511627776))) else (some false)
set_option maxHeartbeats 8000000 in
set_option maxRecDepth 100000 in
theorem msg_number.calls (a0 : Int) (r : Bool) (w : World) (h : msg_number.f a0 = some r) :
  Calls Try.prog 78 #[.int .i64 a0] w fun e w' => e = .returned (.bool r) ∧ Drawn0 w w' := by
 have H : (if a0 ≥ 0 then (some (decide (a0 ≤ 1099511627776))) else (some false)) = some r := h
 clear h
 by_cases c2 : a0 ≥ 0
 ·rw [if_pos c2] at H
  have c2b0 : decide (0 ≤ a0) = true := decide_eq_true c2
  clear c2
  obtain rfl := Option.some.inj H
  go_enter Try.func78, Try.ntmps78
  go_wp2
  go_ret
  exact ⟨z9_, z10_⟩
 ·rw [if_neg c2] at H
  have c2b0 : decide (0 ≤ a0) = false := decide_eq_false c2
  clear c2
  obtain rfl := Option.some.inj H
  go_enter Try.func78, Try.ntmps78
  go_wp2
  go_ret
  exact ⟨z9_, z10_⟩
end Go.Proofs.Ytecfndblgefhdaa.P
