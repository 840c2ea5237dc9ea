-- Printed by this session's own program wip/mprint.py
import Derived.Test.YtafhlaehkaledaaPx0
import Derived.Test.YtafhlaehkaledaaPx1
namespace Go.Proofs.Ytafhlaehkaledaa.P
open Go.RowKit Go.Proofs.YtafhlaehkaledaaW.PrintWords Go.Proofs.YtafhlaehkaledaaW.PrintLast Go.Proofs.YtafhlaehkaledaaW.PrintMore
attribute [local go_sem] max2_int min2_int max_two min_two max_three min_three max_four min_four   -- for this text's walks alone
set_option linter.unusedVariables false
set_option linter.unusedSimpArgs false

/-! ### counterfoillaw14_SegLong: function 4 -/
def counterfoillaw14_SegLong.f (k : Nat) (a0 : Int) : Option (Bool) := if 0 ≤ (wrap64 (65530 + (Int.tmod (wrap64 (a0)) 10))) then (if (wrap64 (65530 + (Int.tmod (wrap64 (a0)) 10)) : Int).toNat ≤ 281474976710656 then ((seg_Cut.f k (strOfNums (List.replicate (wrap64 (65530 + (Int.tmod (wrap64 (a0)) 10)) : Int).toNat 0)) 1).bind fun bt153 => (if (wrap64 (65530 + (Int.tmod (wrap64 (a0)) 10))) > 65535 then (if (bt153.1.length : Int) = 0 then (if bt153.2 = 5 then ((counterfoillaw14_awake.f k).bind fun t157 => (some t157)) else (some false)) else (some false)) else (if (bt153.1.length : Int) = (wrap64 (65530 + (Int.tmod (wrap64 (a0)) 10))) then (if bt153.2 = 0 then ((counterfoillaw14_awake.f k).bind fun t158 => (some t158)) else (some false)) else (some false)))) else (none)) else (none)
theorem counterfoillaw14_SegLong.mono : ∀ a0 k, LeO (counterfoillaw14_SegLong.f k a0) (counterfoillaw14_SegLong.f (k + 1) a0) := by
  intro a0 k
  unfold counterfoillaw14_SegLong.f
  repeat' first
      | (with_reducible exact counterfoillaw14_awake.mono _)
      | (with_reducible exact seg_Cut.mono _ _ _)
      | (with_reducible exact LeO.refl _)
      | (with_reducible exact LeO.none _)
      | (with_reducible refine LeO.ite ?_ ?_)
      | (with_reducible refine LeO.bind ?_ (fun _ => ?_))
      | exact counterfoillaw14_awake.mono _
      | exact seg_Cut.mono _ _ _
      | exact LeO.none _
      | refine LeO.ite ?_ ?_
      | refine LeO.bind ?_ (fun _ => ?_)
set_option maxHeartbeats 8000000 in
set_option maxRecDepth 100000 in
theorem counterfoillaw14_SegLong.calls (k : Nat) (a0 : Int) (r : Bool) (w : World) (h : counterfoillaw14_SegLong.f k a0 = some r) :
    Calls Try.prog 4 #[.int .u8 a0] w fun e w' => e = .returned (.bool r) ∧ Below w.heap.size w w' := by
  have HB := Aside0.mk (Below.refl w.heap.size w)
  have H : (if 0 ≤ (wrap64 (65530 + (Int.tmod (wrap64 (a0)) 10))) then (if (wrap64 (65530 + (Int.tmod (wrap64 (a0)) 10)) : Int).toNat ≤ 281474976710656 then ((seg_Cut.f k (strOfNums (List.replicate (wrap64 (65530 + (Int.tmod (wrap64 (a0)) 10)) : Int).toNat 0)) 1).bind fun bt153 => (if (wrap64 (65530 + (Int.tmod (wrap64 (a0)) 10))) > 65535 then (if (bt153.1.length : Int) = 0 then (if bt153.2 = 5 then ((counterfoillaw14_awake.f k).bind fun t157 => (some t157)) else (some false)) else (some false)) else (if (bt153.1.length : Int) = (wrap64 (65530 + (Int.tmod (wrap64 (a0)) 10))) then (if bt153.2 = 0 then ((counterfoillaw14_awake.f k).bind fun t158 => (some t158)) else (some false)) else (some false)))) else (none)) else (none)) = some r := h
  clear h
  obtain ⟨ji2, hji2⟩ : ∃ j_ : Int, (wrap64 (65530 + (Int.tmod (wrap64 (a0)) 10))) = j_ := ⟨_, rfl⟩
  replace H : (if 0 ≤ (ji2) then (if (ji2 : Int).toNat ≤ 281474976710656 then ((seg_Cut.f k (strOfNums (List.replicate (ji2 : Int).toNat 0)) 1).bind fun bt153 => (if (ji2) > 65535 then (if (bt153.1.length : Int) = 0 then (if bt153.2 = 5 then ((counterfoillaw14_awake.f k).bind fun t157 => (some t157)) else (some false)) else (some false)) else (if (bt153.1.length : Int) = (ji2) then (if bt153.2 = 0 then ((counterfoillaw14_awake.f k).bind fun t158 => (some t158)) else (some false)) else (some false)))) else (none)) else (none)) = some r := by first | (rw [hji2] at H; exact H) | (simp only [hji2] at H ⊢; exact H)
  have hji2w : (IntKind.i64.wrap (65530 + (Int.tmod (wrap64 (a0)) 10))) = ji2 := (i64_w _).trans hji2
  by_cases c3 : 0 ≤ (ji2)
  · rw [if_pos c3] at H
    have c3b0 := eq_true c3
    have c3b1 : decide (0 ≤ (ji2)) = true := decide_eq_true c3
    clear c3
    by_cases c4 : (ji2 : Int).toNat ≤ 281474976710656
    · rw [if_pos c4] at H
      have c4b0 := eq_true c4
      have c4b1 : decide ((ji2 : Int).toNat ≤ 281474976710656) = true := decide_eq_true c4
      clear c4
      obtain ⟨y150, hy150⟩ : ∃ y_ : List Int, y_ = (List.replicate (ji2 : Int).toNat 0) := ⟨_, rfl⟩
      replace H : ((seg_Cut.f k (strOfNums y150) 1).bind fun bt153 => (if (ji2) > 65535 then (if (bt153.1.length : Int) = 0 then (if bt153.2 = 5 then ((counterfoillaw14_awake.f k).bind fun t157 => (some t157)) else (some false)) else (some false)) else (if (bt153.1.length : Int) = (ji2) then (if bt153.2 = 0 then ((counterfoillaw14_awake.f k).bind fun t158 => (some t158)) else (some false)) else (some false)))) = some r := by first | (rw [hy150]; with_reducible exact H) | (have H2_ := (Option.bind_some _ _).symm.trans H; rw [hy150]; with_reducible exact H2_) | (have H2_ := (Option.bind_some _ _).symm.trans H; with_reducible exact H2_) | with_reducible exact H | (rw [hy150]; exact H) | exact H
      have Ny150 := Aside0.mk hy150
      clear hy150
      replace H := Option.bind_eq_some_iff.mp H
      obtain ⟨⟨t153, t154⟩, A50, H⟩ := H
      replace H : (if (ji2) > 65535 then (if (t153.length : Int) = 0 then (if t154 = 5 then ((counterfoillaw14_awake.f k).bind fun t157 => (some t157)) else (some false)) else (some false)) else (if (t153.length : Int) = (ji2) then (if t154 = 0 then ((counterfoillaw14_awake.f k).bind fun t158 => (some t158)) else (some false)) else (some false))) = some r := H
      have A5 := Aside0.mk A50
      clear A50
      by_cases c6 : (ji2) > 65535
      · rw [if_pos c6] at H
        have c6b0 : decide (65535 < (ji2)) = true := decide_eq_true c6
        clear c6
        by_cases c7 : (t153.length : Int) = 0
        · rw [if_pos c7] at H
          have c7b0 : ((t153.length : Int) == 0) = true := beq_iff_eq.mpr c7
          have c7b1 : ((t153.length : Int) != 0) = false := bne_eq_false_iff_eq.mpr c7
          clear c7
          by_cases c8 : t154 = 5
          · rw [if_pos c8] at H
            have c8b0 : (t154 == 5) = true := beq_iff_eq.mpr c8
            have c8b1 : (t154 != 5) = false := bne_eq_false_iff_eq.mpr c8
            clear c8
            replace H := Option.bind_eq_some_iff.mp H
            obtain ⟨t157, A90, H⟩ := H
            replace H : (some t157) = some r := H
            have A9 := Aside0.mk A90
            clear A90
            obtain rfl := Option.some.inj H
            go_enter Try.func4, Try.ntmps4
            go_wp2_with (first | ((with_reducible refine gate_dst (N := 12) rfl ?_); refine Kd.R_make (Kd.int .u8) _ 5 rfl (N := 12) rfl 31 _ _ rfl ji2 rfl rfl Try.underlying31 (.int .u8 0) 1 info5 rfl (by decide) (by omega) 0 (ok := fun _ => True) (okp := fun _ => True) rfl (fun _ hk => hk) trivial (of_decide_eq_true (by first | (with_reducible assumption) | assumption)) (Nat.le_trans (Nat.mul_le_mul_right _ (of_decide_eq_true (by first | (with_reducible assumption) | assumption) : ji2.toNat ≤ 281474976710656)) (by omega)) (Below.refl _ _) (Nat.le_refl _) ?_; intro v151 w10 ho11 hb hg_ hnew_; clear hg_ hnew_; (first | rw [← Ny150.out] at ho11 | (simp only [Int.reduceToNat] at ho11; rw [← Ny150.out] at ho11)); have n0_ := Aside0.mk (Kd.R_lower ho11 (below_size (by repeat (first | (with_reducible first | exact HB.out | apply below_alloc | apply pw_below_drewN | apply below_drew1) | exact HB.out)))); have n1_ := Aside0.mk (below_step (by repeat (first | (with_reducible first | exact HB.out | apply below_alloc | apply pw_below_drewN | apply below_drew1) | exact HB.out)) hb); clear HB; have HO152 := n0_; have HB := n1_; clear n0_ n1_; clear hb ho11; have hcv12 := own_string (P := Try.prog) Try.underlying31 Try.underlying5 Try.underlying9 (Kd.own_of_R HO152.out)) | ((with_reducible refine gate_callee (f := 10) rfl ?_); refine goesL_ (some 14) rfl rfl Try.func10 (by kernel_rfl) rfl #[.string (strOfNums y150), .int .i64 1] rfl (by (try simp only [List.map_toArray, List.map_cons, List.map_nil]); first | done | rfl | (simp only [List.length_drop, List.length_take]; rfl)) ?_; (with_reducible refine (seg_Cut.calls k (strOfNums y150) 1 t153 t154 _ A5.out).mono ?_); rintro e w13 ⟨v155, rfl, ho0, hb⟩; refine ⟨_, rfl, ?_⟩; have n0_ := Aside0.mk (Kd.R_below (by (with_reducible repeat (first | apply Kd.R_alloc | apply Kd.R_drewN | apply Kd.R_drew)); exact HO152.out) hb); have n1_ := Aside0.mk (Kd.R_lower ho0 (below_size (by repeat (first | (with_reducible first | exact HB.out | apply below_alloc | apply pw_below_drewN | apply below_drew1) | exact HB.out)))); have n2_ := Aside0.mk (below_step (by repeat (first | (with_reducible first | exact HB.out | apply below_alloc | apply pw_below_drewN | apply below_drew1) | exact HB.out)) hb); clear HO152; clear HB; have HO152 := n0_; have HO156 := n1_; have HB := n2_; clear n0_ n1_ n2_; (try clear hb); (try clear hb2); (try clear hk); (try clear hi); (try clear ho0); obtain ⟨Ao14, co14, eo14⟩ := Kd.R_slice HO156.out; subst eo14) | (go_at_call 9; (with_reducible refine (counterfoillaw14_awake.calls k  t157 _ A9.out).mono ?_); rintro e w15 ⟨rfl, hb⟩; have n0_ := Aside0.mk (Kd.R_below (by (with_reducible repeat (first | apply Kd.R_alloc | apply Kd.R_drewN | apply Kd.R_drew)); exact HO152.out) hb); have n1_ := Aside0.mk (Kd.R_below (by (with_reducible repeat (first | apply Kd.R_alloc | apply Kd.R_drewN | apply Kd.R_drew)); exact HO156.out) hb); have n2_ := Aside0.mk (below_step (by repeat (first | (with_reducible first | exact HB.out | apply below_alloc | apply pw_below_drewN | apply below_drew1) | exact HB.out)) hb); clear HO152; clear HO156; clear HB; have HO152 := n0_; have HO156 := n1_; have HB := n2_; clear n0_ n1_ n2_; (try clear hb); (try clear hb2); (try clear hk); (try clear hi)))
            go_ret
            exact ⟨by first | rfl | (simp [errW_none, errW_some] <;> rfl) | (simp only [← hji2]; first | rfl | (simp [errW_none, errW_some] <;> rfl)) | (simp [*, errW_none, errW_some] <;> rfl), by repeat (first | (with_reducible first | exact HB.out | apply below_alloc | apply pw_below_drewN | apply below_drew1) | exact HB.out)⟩
          · rw [if_neg c8] at H
            have c8b0 : (t154 == 5) = false := beq_eq_false_iff_ne.mpr c8
            have c8b1 : (t154 != 5) = true := bne_iff_ne.mpr c8
            obtain rfl := Option.some.inj H
            go_enter Try.func4, Try.ntmps4
            go_wp2_with (first | ((with_reducible refine gate_dst (N := 12) rfl ?_); refine Kd.R_make (Kd.int .u8) _ 5 rfl (N := 12) rfl 31 _ _ rfl ji2 rfl rfl Try.underlying31 (.int .u8 0) 1 info5 rfl (by decide) (by omega) 0 (ok := fun _ => True) (okp := fun _ => True) rfl (fun _ hk => hk) trivial (of_decide_eq_true (by first | (with_reducible assumption) | assumption)) (Nat.le_trans (Nat.mul_le_mul_right _ (of_decide_eq_true (by first | (with_reducible assumption) | assumption) : ji2.toNat ≤ 281474976710656)) (by omega)) (Below.refl _ _) (Nat.le_refl _) ?_; intro v151 w16 ho17 hb hg_ hnew_; clear hg_ hnew_; (first | rw [← Ny150.out] at ho17 | (simp only [Int.reduceToNat] at ho17; rw [← Ny150.out] at ho17)); have n0_ := Aside0.mk (Kd.R_lower ho17 (below_size (by repeat (first | (with_reducible first | exact HB.out | apply below_alloc | apply pw_below_drewN | apply below_drew1) | exact HB.out)))); have n1_ := Aside0.mk (below_step (by repeat (first | (with_reducible first | exact HB.out | apply below_alloc | apply pw_below_drewN | apply below_drew1) | exact HB.out)) hb); clear HB; have HO152 := n0_; have HB := n1_; clear n0_ n1_; clear hb ho17; have hcv18 := own_string (P := Try.prog) Try.underlying31 Try.underlying5 Try.underlying9 (Kd.own_of_R HO152.out)) | ((with_reducible refine gate_callee (f := 10) rfl ?_); refine goesL_ (some 14) rfl rfl Try.func10 (by kernel_rfl) rfl #[.string (strOfNums y150), .int .i64 1] rfl (by (try simp only [List.map_toArray, List.map_cons, List.map_nil]); first | done | rfl | (simp only [List.length_drop, List.length_take]; rfl)) ?_; (with_reducible refine (seg_Cut.calls k (strOfNums y150) 1 t153 t154 _ A5.out).mono ?_); rintro e w19 ⟨v155, rfl, ho0, hb⟩; refine ⟨_, rfl, ?_⟩; have n0_ := Aside0.mk (Kd.R_below (by (with_reducible repeat (first | apply Kd.R_alloc | apply Kd.R_drewN | apply Kd.R_drew)); exact HO152.out) hb); have n1_ := Aside0.mk (Kd.R_lower ho0 (below_size (by repeat (first | (with_reducible first | exact HB.out | apply below_alloc | apply pw_below_drewN | apply below_drew1) | exact HB.out)))); have n2_ := Aside0.mk (below_step (by repeat (first | (with_reducible first | exact HB.out | apply below_alloc | apply pw_below_drewN | apply below_drew1) | exact HB.out)) hb); clear HO152; clear HB; have HO152 := n0_; have HO156 := n1_; have HB := n2_; clear n0_ n1_ n2_; (try clear hb); (try clear hb2); (try clear hk); (try clear hi); (try clear ho0); obtain ⟨Ao20, co20, eo20⟩ := Kd.R_slice HO156.out; subst eo20))
            go_ret
            exact ⟨by first | rfl | (simp [errW_none, errW_some] <;> rfl) | (simp only [← hji2]; first | rfl | (simp [errW_none, errW_some] <;> rfl)) | (simp [*, errW_none, errW_some] <;> rfl), by repeat (first | (with_reducible first | exact HB.out | apply below_alloc | apply pw_below_drewN | apply below_drew1) | exact HB.out)⟩
        · rw [if_neg c7] at H
          have c7b0 : ((t153.length : Int) == 0) = false := beq_eq_false_iff_ne.mpr c7
          have c7b1 : ((t153.length : Int) != 0) = true := bne_iff_ne.mpr c7
          have c7b2 : ¬ (t153 = []) := fun h_ => c7 (by rw [h_]; rfl)
          obtain rfl := Option.some.inj H
          go_enter Try.func4, Try.ntmps4
          go_wp2_with (first | ((with_reducible refine gate_dst (N := 12) rfl ?_); refine Kd.R_make (Kd.int .u8) _ 5 rfl (N := 12) rfl 31 _ _ rfl ji2 rfl rfl Try.underlying31 (.int .u8 0) 1 info5 rfl (by decide) (by omega) 0 (ok := fun _ => True) (okp := fun _ => True) rfl (fun _ hk => hk) trivial (of_decide_eq_true (by first | (with_reducible assumption) | assumption)) (Nat.le_trans (Nat.mul_le_mul_right _ (of_decide_eq_true (by first | (with_reducible assumption) | assumption) : ji2.toNat ≤ 281474976710656)) (by omega)) (Below.refl _ _) (Nat.le_refl _) ?_; intro v151 w21 ho22 hb hg_ hnew_; clear hg_ hnew_; (first | rw [← Ny150.out] at ho22 | (simp only [Int.reduceToNat] at ho22; rw [← Ny150.out] at ho22)); have n0_ := Aside0.mk (Kd.R_lower ho22 (below_size (by repeat (first | (with_reducible first | exact HB.out | apply below_alloc | apply pw_below_drewN | apply below_drew1) | exact HB.out)))); have n1_ := Aside0.mk (below_step (by repeat (first | (with_reducible first | exact HB.out | apply below_alloc | apply pw_below_drewN | apply below_drew1) | exact HB.out)) hb); clear HB; have HO152 := n0_; have HB := n1_; clear n0_ n1_; clear hb ho22; have hcv23 := own_string (P := Try.prog) Try.underlying31 Try.underlying5 Try.underlying9 (Kd.own_of_R HO152.out)) | ((with_reducible refine gate_callee (f := 10) rfl ?_); refine goesL_ (some 14) rfl rfl Try.func10 (by kernel_rfl) rfl #[.string (strOfNums y150), .int .i64 1] rfl (by (try simp only [List.map_toArray, List.map_cons, List.map_nil]); first | done | rfl | (simp only [List.length_drop, List.length_take]; rfl)) ?_; (with_reducible refine (seg_Cut.calls k (strOfNums y150) 1 t153 t154 _ A5.out).mono ?_); rintro e w24 ⟨v155, rfl, ho0, hb⟩; refine ⟨_, rfl, ?_⟩; have n0_ := Aside0.mk (Kd.R_below (by (with_reducible repeat (first | apply Kd.R_alloc | apply Kd.R_drewN | apply Kd.R_drew)); exact HO152.out) hb); have n1_ := Aside0.mk (Kd.R_lower ho0 (below_size (by repeat (first | (with_reducible first | exact HB.out | apply below_alloc | apply pw_below_drewN | apply below_drew1) | exact HB.out)))); have n2_ := Aside0.mk (below_step (by repeat (first | (with_reducible first | exact HB.out | apply below_alloc | apply pw_below_drewN | apply below_drew1) | exact HB.out)) hb); clear HO152; clear HB; have HO152 := n0_; have HO156 := n1_; have HB := n2_; clear n0_ n1_ n2_; (try clear hb); (try clear hb2); (try clear hk); (try clear hi); (try clear ho0); obtain ⟨Ao25, co25, eo25⟩ := Kd.R_slice HO156.out; subst eo25))
          go_ret
          exact ⟨by first | rfl | (simp [errW_none, errW_some] <;> rfl) | (simp only [← hji2]; first | rfl | (simp [errW_none, errW_some] <;> rfl)) | (simp [*, errW_none, errW_some] <;> rfl), by repeat (first | (with_reducible first | exact HB.out | apply below_alloc | apply pw_below_drewN | apply below_drew1) | exact HB.out)⟩
      · rw [if_neg c6] at H
        have c6b0 : decide (65535 < (ji2)) = false := decide_eq_false c6
        clear c6
        by_cases c26 : (t153.length : Int) = (ji2)
        · rw [if_pos c26] at H
          have c26b0 : ((t153.length : Int) == (ji2)) = true := beq_iff_eq.mpr c26
          have c26b1 : ((t153.length : Int) != (ji2)) = false := bne_eq_false_iff_eq.mpr c26
          clear c26
          by_cases c27 : t154 = 0
          · rw [if_pos c27] at H
            have c27b0 : (t154 == 0) = true := beq_iff_eq.mpr c27
            have c27b1 : (t154 != 0) = false := bne_eq_false_iff_eq.mpr c27
            clear c27
            replace H := Option.bind_eq_some_iff.mp H
            obtain ⟨t158, A280, H⟩ := H
            replace H : (some t158) = some r := H
            have A28 := Aside0.mk A280
            clear A280
            obtain rfl := Option.some.inj H
            go_enter Try.func4, Try.ntmps4
            go_wp2_with (first | ((with_reducible refine gate_dst (N := 12) rfl ?_); refine Kd.R_make (Kd.int .u8) _ 5 rfl (N := 12) rfl 31 _ _ rfl ji2 rfl rfl Try.underlying31 (.int .u8 0) 1 info5 rfl (by decide) (by omega) 0 (ok := fun _ => True) (okp := fun _ => True) rfl (fun _ hk => hk) trivial (of_decide_eq_true (by first | (with_reducible assumption) | assumption)) (Nat.le_trans (Nat.mul_le_mul_right _ (of_decide_eq_true (by first | (with_reducible assumption) | assumption) : ji2.toNat ≤ 281474976710656)) (by omega)) (Below.refl _ _) (Nat.le_refl _) ?_; intro v151 w29 ho30 hb hg_ hnew_; clear hg_ hnew_; (first | rw [← Ny150.out] at ho30 | (simp only [Int.reduceToNat] at ho30; rw [← Ny150.out] at ho30)); have n0_ := Aside0.mk (Kd.R_lower ho30 (below_size (by repeat (first | (with_reducible first | exact HB.out | apply below_alloc | apply pw_below_drewN | apply below_drew1) | exact HB.out)))); have n1_ := Aside0.mk (below_step (by repeat (first | (with_reducible first | exact HB.out | apply below_alloc | apply pw_below_drewN | apply below_drew1) | exact HB.out)) hb); clear HB; have HO152 := n0_; have HB := n1_; clear n0_ n1_; clear hb ho30; have hcv31 := own_string (P := Try.prog) Try.underlying31 Try.underlying5 Try.underlying9 (Kd.own_of_R HO152.out)) | ((with_reducible refine gate_callee (f := 10) rfl ?_); refine goesL_ (some 14) rfl rfl Try.func10 (by kernel_rfl) rfl #[.string (strOfNums y150), .int .i64 1] rfl (by (try simp only [List.map_toArray, List.map_cons, List.map_nil]); first | done | rfl | (simp only [List.length_drop, List.length_take]; rfl)) ?_; (with_reducible refine (seg_Cut.calls k (strOfNums y150) 1 t153 t154 _ A5.out).mono ?_); rintro e w32 ⟨v155, rfl, ho0, hb⟩; refine ⟨_, rfl, ?_⟩; have n0_ := Aside0.mk (Kd.R_below (by (with_reducible repeat (first | apply Kd.R_alloc | apply Kd.R_drewN | apply Kd.R_drew)); exact HO152.out) hb); have n1_ := Aside0.mk (Kd.R_lower ho0 (below_size (by repeat (first | (with_reducible first | exact HB.out | apply below_alloc | apply pw_below_drewN | apply below_drew1) | exact HB.out)))); have n2_ := Aside0.mk (below_step (by repeat (first | (with_reducible first | exact HB.out | apply below_alloc | apply pw_below_drewN | apply below_drew1) | exact HB.out)) hb); clear HO152; clear HB; have HO152 := n0_; have HO156 := n1_; have HB := n2_; clear n0_ n1_ n2_; (try clear hb); (try clear hb2); (try clear hk); (try clear hi); (try clear ho0); obtain ⟨Ao33, co33, eo33⟩ := Kd.R_slice HO156.out; subst eo33) | (go_at_call 9; (with_reducible refine (counterfoillaw14_awake.calls k  t158 _ A28.out).mono ?_); rintro e w34 ⟨rfl, hb⟩; have n0_ := Aside0.mk (Kd.R_below (by (with_reducible repeat (first | apply Kd.R_alloc | apply Kd.R_drewN | apply Kd.R_drew)); exact HO152.out) hb); have n1_ := Aside0.mk (Kd.R_below (by (with_reducible repeat (first | apply Kd.R_alloc | apply Kd.R_drewN | apply Kd.R_drew)); exact HO156.out) hb); have n2_ := Aside0.mk (below_step (by repeat (first | (with_reducible first | exact HB.out | apply below_alloc | apply pw_below_drewN | apply below_drew1) | exact HB.out)) hb); clear HO152; clear HO156; clear HB; have HO152 := n0_; have HO156 := n1_; have HB := n2_; clear n0_ n1_ n2_; (try clear hb); (try clear hb2); (try clear hk); (try clear hi)))
            go_ret
            exact ⟨by first | rfl | (simp [errW_none, errW_some] <;> rfl) | (simp only [← hji2]; first | rfl | (simp [errW_none, errW_some] <;> rfl)) | (simp [*, errW_none, errW_some] <;> rfl), by repeat (first | (with_reducible first | exact HB.out | apply below_alloc | apply pw_below_drewN | apply below_drew1) | exact HB.out)⟩
          · rw [if_neg c27] at H
            have c27b0 : (t154 == 0) = false := beq_eq_false_iff_ne.mpr c27
            have c27b1 : (t154 != 0) = true := bne_iff_ne.mpr c27
            obtain rfl := Option.some.inj H
            go_enter Try.func4, Try.ntmps4
            go_wp2_with (first | ((with_reducible refine gate_dst (N := 12) rfl ?_); refine Kd.R_make (Kd.int .u8) _ 5 rfl (N := 12) rfl 31 _ _ rfl ji2 rfl rfl Try.underlying31 (.int .u8 0) 1 info5 rfl (by decide) (by omega) 0 (ok := fun _ => True) (okp := fun _ => True) rfl (fun _ hk => hk) trivial (of_decide_eq_true (by first | (with_reducible assumption) | assumption)) (Nat.le_trans (Nat.mul_le_mul_right _ (of_decide_eq_true (by first | (with_reducible assumption) | assumption) : ji2.toNat ≤ 281474976710656)) (by omega)) (Below.refl _ _) (Nat.le_refl _) ?_; intro v151 w35 ho36 hb hg_ hnew_; clear hg_ hnew_; (first | rw [← Ny150.out] at ho36 | (simp only [Int.reduceToNat] at ho36; rw [← Ny150.out] at ho36)); have n0_ := Aside0.mk (Kd.R_lower ho36 (below_size (by repeat (first | (with_reducible first | exact HB.out | apply below_alloc | apply pw_below_drewN | apply below_drew1) | exact HB.out)))); have n1_ := Aside0.mk (below_step (by repeat (first | (with_reducible first | exact HB.out | apply below_alloc | apply pw_below_drewN | apply below_drew1) | exact HB.out)) hb); clear HB; have HO152 := n0_; have HB := n1_; clear n0_ n1_; clear hb ho36; have hcv37 := own_string (P := Try.prog) Try.underlying31 Try.underlying5 Try.underlying9 (Kd.own_of_R HO152.out)) | ((with_reducible refine gate_callee (f := 10) rfl ?_); refine goesL_ (some 14) rfl rfl Try.func10 (by kernel_rfl) rfl #[.string (strOfNums y150), .int .i64 1] rfl (by (try simp only [List.map_toArray, List.map_cons, List.map_nil]); first | done | rfl | (simp only [List.length_drop, List.length_take]; rfl)) ?_; (with_reducible refine (seg_Cut.calls k (strOfNums y150) 1 t153 t154 _ A5.out).mono ?_); rintro e w38 ⟨v155, rfl, ho0, hb⟩; refine ⟨_, rfl, ?_⟩; have n0_ := Aside0.mk (Kd.R_below (by (with_reducible repeat (first | apply Kd.R_alloc | apply Kd.R_drewN | apply Kd.R_drew)); exact HO152.out) hb); have n1_ := Aside0.mk (Kd.R_lower ho0 (below_size (by repeat (first | (with_reducible first | exact HB.out | apply below_alloc | apply pw_below_drewN | apply below_drew1) | exact HB.out)))); have n2_ := Aside0.mk (below_step (by repeat (first | (with_reducible first | exact HB.out | apply below_alloc | apply pw_below_drewN | apply below_drew1) | exact HB.out)) hb); clear HO152; clear HB; have HO152 := n0_; have HO156 := n1_; have HB := n2_; clear n0_ n1_ n2_; (try clear hb); (try clear hb2); (try clear hk); (try clear hi); (try clear ho0); obtain ⟨Ao39, co39, eo39⟩ := Kd.R_slice HO156.out; subst eo39))
            go_ret
            exact ⟨by first | rfl | (simp [errW_none, errW_some] <;> rfl) | (simp only [← hji2]; first | rfl | (simp [errW_none, errW_some] <;> rfl)) | (simp [*, errW_none, errW_some] <;> rfl), by repeat (first | (with_reducible first | exact HB.out | apply below_alloc | apply pw_below_drewN | apply below_drew1) | exact HB.out)⟩
        · rw [if_neg c26] at H
          have c26b0 : ((t153.length : Int) == (ji2)) = false := beq_eq_false_iff_ne.mpr c26
          have c26b1 : ((t153.length : Int) != (ji2)) = true := bne_iff_ne.mpr c26
          obtain rfl := Option.some.inj H
          go_enter Try.func4, Try.ntmps4
          go_wp2_with (first | ((with_reducible refine gate_dst (N := 12) rfl ?_); refine Kd.R_make (Kd.int .u8) _ 5 rfl (N := 12) rfl 31 _ _ rfl ji2 rfl rfl Try.underlying31 (.int .u8 0) 1 info5 rfl (by decide) (by omega) 0 (ok := fun _ => True) (okp := fun _ => True) rfl (fun _ hk => hk) trivial (of_decide_eq_true (by first | (with_reducible assumption) | assumption)) (Nat.le_trans (Nat.mul_le_mul_right _ (of_decide_eq_true (by first | (with_reducible assumption) | assumption) : ji2.toNat ≤ 281474976710656)) (by omega)) (Below.refl _ _) (Nat.le_refl _) ?_; intro v151 w40 ho41 hb hg_ hnew_; clear hg_ hnew_; (first | rw [← Ny150.out] at ho41 | (simp only [Int.reduceToNat] at ho41; rw [← Ny150.out] at ho41)); have n0_ := Aside0.mk (Kd.R_lower ho41 (below_size (by repeat (first | (with_reducible first | exact HB.out | apply below_alloc | apply pw_below_drewN | apply below_drew1) | exact HB.out)))); have n1_ := Aside0.mk (below_step (by repeat (first | (with_reducible first | exact HB.out | apply below_alloc | apply pw_below_drewN | apply below_drew1) | exact HB.out)) hb); clear HB; have HO152 := n0_; have HB := n1_; clear n0_ n1_; clear hb ho41; have hcv42 := own_string (P := Try.prog) Try.underlying31 Try.underlying5 Try.underlying9 (Kd.own_of_R HO152.out)) | ((with_reducible refine gate_callee (f := 10) rfl ?_); refine goesL_ (some 14) rfl rfl Try.func10 (by kernel_rfl) rfl #[.string (strOfNums y150), .int .i64 1] rfl (by (try simp only [List.map_toArray, List.map_cons, List.map_nil]); first | done | rfl | (simp only [List.length_drop, List.length_take]; rfl)) ?_; (with_reducible refine (seg_Cut.calls k (strOfNums y150) 1 t153 t154 _ A5.out).mono ?_); rintro e w43 ⟨v155, rfl, ho0, hb⟩; refine ⟨_, rfl, ?_⟩; have n0_ := Aside0.mk (Kd.R_below (by (with_reducible repeat (first | apply Kd.R_alloc | apply Kd.R_drewN | apply Kd.R_drew)); exact HO152.out) hb); have n1_ := Aside0.mk (Kd.R_lower ho0 (below_size (by repeat (first | (with_reducible first | exact HB.out | apply below_alloc | apply pw_below_drewN | apply below_drew1) | exact HB.out)))); have n2_ := Aside0.mk (below_step (by repeat (first | (with_reducible first | exact HB.out | apply below_alloc | apply pw_below_drewN | apply below_drew1) | exact HB.out)) hb); clear HO152; clear HB; have HO152 := n0_; have HO156 := n1_; have HB := n2_; clear n0_ n1_ n2_; (try clear hb); (try clear hb2); (try clear hk); (try clear hi); (try clear ho0); obtain ⟨Ao44, co44, eo44⟩ := Kd.R_slice HO156.out; subst eo44))
          go_ret
          exact ⟨by first | rfl | (simp [errW_none, errW_some] <;> rfl) | (simp only [← hji2]; first | rfl | (simp [errW_none, errW_some] <;> rfl)) | (simp [*, errW_none, errW_some] <;> rfl), by repeat (first | (with_reducible first | exact HB.out | apply below_alloc | apply pw_below_drewN | apply below_drew1) | exact HB.out)⟩
    · rw [if_neg c4] at H
      exact absurd H (by simp)
  · rw [if_neg c3] at H
    exact absurd H (by simp)

/-- THE ONE PURE STATEMENT of counterfoillaw14_SegLong: yours. -/
def counterfoillaw14_SegLong.Pure : Prop := ∀ (a0 : Int), (Lit.int .u8 a0).wf = true → ∃ k, counterfoillaw14_SegLong.f k a0 = some true
theorem counterfoillaw14_SegLong.walk (P : counterfoillaw14_SegLong.Pure) (a0 : Int) (w : World) (w0 : (Lit.int .u8 a0).wf = true) :
    Calls Try.prog 4 #[.int .u8 a0] w fun e w' => e = .returned (.bool true) ∧ Below w.heap.size w w' := by
  obtain ⟨k, h⟩ := P a0 w0
  refine (counterfoillaw14_SegLong.calls k a0 true w h).mono ?_
  rintro e w' ⟨rfl, hd⟩
  exact ⟨rfl, hd⟩

/-! ### counterfoillaw14_SegSizes: function 5 -/
def counterfoillaw14_SegSizes.l0 : Nat → ByteArray → Int → List ByteArray → ByteArray → List ByteArray → Int → Int → Option (Bool)
  | 0, _, _, _, _, _, _, _ => none
  | k + 1, x0, x1, x5, x7, x28, x29, x30 => if x30 < x29 then (if 0 ≤ x30 then (if x30 < (x28.length : Int) then (if ((rdOf ByteArray.empty x28 x30).size : Int) < 4 then (some false) else (if (wrap64 (((rdOf ByteArray.empty x28 x30).size : Int) - 4)) > x1 then (some false) else (if (wrap64 (x30 + 1)) < (x5.length : Int) then (if (wrap64 (((rdOf ByteArray.empty x28 x30).size : Int) - 4)) = x1 then (if 4 ≤ ((rdOf ByteArray.empty x28 x30).size : Int) then (if x7.size + ((rdOf ByteArray.empty x28 x30).extract 4 (rdOf ByteArray.empty x28 x30).size).size ≤ 9223372036854775807 then (counterfoillaw14_SegSizes.l0 k x0 x1 x5 (x7 ++ ((rdOf ByteArray.empty x28 x30).extract 4 (rdOf ByteArray.empty x28 x30).size)) x28 x29 (wrap64 (x30 + 1))) else (none)) else (none)) else (some false)) else (if 4 ≤ ((rdOf ByteArray.empty x28 x30).size : Int) then (if x7.size + ((rdOf ByteArray.empty x28 x30).extract 4 (rdOf ByteArray.empty x28 x30).size).size ≤ 9223372036854775807 then (counterfoillaw14_SegSizes.l0 k x0 x1 x5 (x7 ++ ((rdOf ByteArray.empty x28 x30).extract 4 (rdOf ByteArray.empty x28 x30).size)) x28 x29 (wrap64 (x30 + 1))) else (none)) else (none))))) else (none)) else (none)) else (if x7.toList = x0.toList then (if (x5.length : Int) > 0 then ((counterfoillaw14_awake.f k).bind fun t166 => (some t166)) else (some false)) else (some false))
def counterfoillaw14_SegSizes.f (k : Nat) (a0 : ByteArray) (a1 : Int) : Option (Bool) := if (a0.size : Int) > 16384 then ((counterfoillaw14_awake.f k).bind fun t159 => (some t159)) else ((seg_Cut.f k a0 a1).bind fun bt160 => (if bt160.2 = 0 then (counterfoillaw14_SegSizes.l0 k a0 a1 bt160.1 (⟨#[]⟩ : ByteArray) bt160.1 (bt160.1.length : Int) 0) else (if (bt160.1.length : Int) = 0 then ((counterfoillaw14_awake.f k).bind fun t164 => (some t164)) else (some false))))
theorem counterfoillaw14_SegSizes.mono_l : ∀ k, (∀ y0 y1 y2 y3 y4 y5 y6, LeO (counterfoillaw14_SegSizes.l0 k y0 y1 y2 y3 y4 y5 y6) (counterfoillaw14_SegSizes.l0 (k + 1) y0 y1 y2 y3 y4 y5 y6))
  | 0 => fun _ _ _ _ _ _ _ r h => by simp [counterfoillaw14_SegSizes.l0] at h
  | k + 1 => by
    have ih0 := counterfoillaw14_SegSizes.mono_l k
    · intro y0 y1 y2 y3 y4 y5 y6
      unfold counterfoillaw14_SegSizes.l0
      repeat' first
      | (with_reducible exact ih0 _ _ _ _ _ _ _)
      | (with_reducible exact counterfoillaw14_awake.mono _)
      | (with_reducible exact seg_Cut.mono _ _ _)
      | (with_reducible exact LeO.refl _)
      | (with_reducible exact LeO.none _)
      | (with_reducible refine LeO.ite ?_ ?_)
      | (with_reducible refine LeO.bind ?_ (fun _ => ?_))
      | exact ih0 _ _ _ _ _ _ _
      | exact counterfoillaw14_awake.mono _
      | exact seg_Cut.mono _ _ _
      | exact LeO.none _
      | refine LeO.ite ?_ ?_
      | refine LeO.bind ?_ (fun _ => ?_)
theorem counterfoillaw14_SegSizes.mono : ∀ a0 a1 k, LeO (counterfoillaw14_SegSizes.f k a0 a1) (counterfoillaw14_SegSizes.f (k + 1) a0 a1) := by
  intro a0 a1 k
  have ih0 := counterfoillaw14_SegSizes.mono_l k
  unfold counterfoillaw14_SegSizes.f
  repeat' first
      | (with_reducible exact ih0 _ _ _ _ _ _ _)
      | (with_reducible exact counterfoillaw14_awake.mono _)
      | (with_reducible exact seg_Cut.mono _ _ _)
      | (with_reducible exact LeO.refl _)
      | (with_reducible exact LeO.none _)
      | (with_reducible refine LeO.ite ?_ ?_)
      | (with_reducible refine LeO.bind ?_ (fun _ => ?_))
      | exact ih0 _ _ _ _ _ _ _
      | exact counterfoillaw14_awake.mono _
      | exact seg_Cut.mono _ _ _
      | exact LeO.none _
      | refine LeO.ite ?_ ?_
      | refine LeO.bind ?_ (fun _ => ?_)
set_option maxHeartbeats 8000000 in
set_option maxRecDepth 100000 in
theorem counterfoillaw14_SegSizes.calls (k : Nat) (a0 : ByteArray) (a1 : Int) (r : Bool) (w : World) (h : counterfoillaw14_SegSizes.f k a0 a1 = some r) :
    Calls Try.prog 5 #[.string a0, .int .i64 a1] w fun e w' => e = .returned (.bool r) ∧ Below w.heap.size w w' := by
  have HB := Aside0.mk (Below.refl w.heap.size w)
  have H : (if (a0.size : Int) > 16384 then ((counterfoillaw14_awake.f k).bind fun t159 => (some t159)) else ((seg_Cut.f k a0 a1).bind fun bt160 => (if bt160.2 = 0 then (counterfoillaw14_SegSizes.l0 k a0 a1 bt160.1 (⟨#[]⟩ : ByteArray) bt160.1 (bt160.1.length : Int) 0) else (if (bt160.1.length : Int) = 0 then ((counterfoillaw14_awake.f k).bind fun t164 => (some t164)) else (some false))))) = some r := h
  clear h
  by_cases c3 : (a0.size : Int) > 16384
  · rw [if_pos c3] at H
    have c3b0 : decide (16384 < (a0.size : Int)) = true := decide_eq_true c3
    have c3b1 : decide (16384 < a0.size) = true := decide_eq_true (by omega)
    clear c3
    replace H := Option.bind_eq_some_iff.mp H
    obtain ⟨t159, A40, H⟩ := H
    replace H : (some t159) = some r := H
    have A4 := Aside0.mk A40
    clear A40
    obtain rfl := Option.some.inj H
    go_enter Try.func5, Try.ntmps5
    go_wp2_with (first | ((with_reducible refine gate_callee (f := 9) rfl ?_); refine goesL_ (some 13) rfl rfl Try.func9 (by kernel_rfl) rfl #[] rfl (by (try simp only [List.map_toArray, List.map_cons, List.map_nil]); first | done | rfl | (simp only [List.length_drop, List.length_take]; rfl)) ?_; (with_reducible refine (counterfoillaw14_awake.calls k  t159 _ A4.out).mono ?_); rintro e w5 ⟨rfl, hb⟩; refine ⟨_, rfl, ?_⟩; have n0_ := Aside0.mk (below_step (by repeat (first | (with_reducible first | exact HB.out | apply below_alloc | apply pw_below_drewN | apply below_drew1) | exact HB.out)) hb); clear HB; have HB := n0_; clear n0_; (try clear hb); (try clear hb2); (try clear hk); (try clear hi)))
    go_ret
    exact ⟨by first | rfl | (simp [errW_none, errW_some] <;> rfl) | (simp [*, errW_none, errW_some] <;> rfl), by repeat (first | (with_reducible first | exact HB.out | apply below_alloc | apply pw_below_drewN | apply below_drew1) | exact HB.out)⟩
  · rw [if_neg c3] at H
    have c3b0 : decide (16384 < (a0.size : Int)) = false := decide_eq_false c3
    have c3b1 : decide (16384 < a0.size) = false := decide_eq_false (by omega)
    clear c3
    replace H := Option.bind_eq_some_iff.mp H
    obtain ⟨⟨t160, t161⟩, A60, H⟩ := H
    replace H : (if t161 = 0 then (counterfoillaw14_SegSizes.l0 k a0 a1 t160 (⟨#[]⟩ : ByteArray) t160 (t160.length : Int) 0) else (if (t160.length : Int) = 0 then ((counterfoillaw14_awake.f k).bind fun t164 => (some t164)) else (some false))) = some r := H
    have A6 := Aside0.mk A60
    clear A60
    by_cases c7 : t161 = 0
    · rw [if_pos c7] at H
      have c7b0 : (t161 == 0) = true := beq_iff_eq.mpr c7
      have c7b1 : (t161 != 0) = false := bne_eq_false_iff_eq.mpr c7
      clear c7
      have H' := Aside0.mk H
      clear H
      go_enter Try.func5, Try.ntmps5
      go_wp2_with (first | ((with_reducible refine gate_callee (f := 10) rfl ?_); refine goesL_ (some 17) rfl rfl Try.func10 (by kernel_rfl) rfl #[.string a0, .int .i64 a1] rfl (by (try simp only [List.map_toArray, List.map_cons, List.map_nil]); first | done | rfl | (simp only [List.length_drop, List.length_take]; rfl)) ?_; (with_reducible refine (seg_Cut.calls k a0 a1 t160 t161 _ A6.out).mono ?_); rintro e w8 ⟨v162, rfl, ho0, hb⟩; refine ⟨_, rfl, ?_⟩; have n0_ := Aside0.mk (Kd.R_lower ho0 (below_size (by repeat (first | (with_reducible first | exact HB.out | apply below_alloc | apply pw_below_drewN | apply below_drew1) | exact HB.out)))); have n1_ := Aside0.mk (below_step (by repeat (first | (with_reducible first | exact HB.out | apply below_alloc | apply pw_below_drewN | apply below_drew1) | exact HB.out)) hb); clear HB; have HO163 := n0_; have HB := n1_; clear n0_ n1_; (try clear hb); (try clear hb2); (try clear hk); (try clear hi); (try clear ho0); obtain ⟨Ao9, co9, eo9⟩ := Kd.R_slice HO163.out; subst eo9))
      go_loopg [7, 30] k (fun kq v7 v30 w' => ∃ (x7_1 : ByteArray) (x30_1 : Int), v7 = .string x7_1 ∧ v30 = .int .i64 x30_1 ∧ Aside0 (counterfoillaw14_SegSizes.l0 kq a0 a1 t160 x7_1 t160 (t160.length : Int) x30_1 = some r) ∧ Aside0 (kq ≤ k) ∧ Aside0 (Kd.R Kd.string 9 w' w.heap.size (fun _ => True) (.slice Ao9 t160.length co9) t160) ∧ Aside0 (Kd.R Kd.string 9 w' w.heap.size (fun _ => True) (.slice Ao9 t160.length co9) t160) ∧ Aside0 (Below w.heap.size w w'))
      case atStart => exact ⟨((⟨#[]⟩ : ByteArray)), (0), (by first | rfl | (simp; done) | (simp [*]; done)), (by first | rfl | (simp; done) | (simp [*]; done)), H', ⟨Nat.le_refl _⟩, ⟨by (with_reducible repeat (first | apply Kd.R_alloc | apply Kd.R_drewN | apply Kd.R_drew)); exact HO163.out⟩, ⟨by (with_reducible repeat (first | apply Kd.R_alloc | apply Kd.R_drewN | apply Kd.R_drew)); exact HO163.out⟩, ⟨by repeat (first | (with_reducible first | exact HB.out | apply below_alloc | apply pw_below_drewN | apply below_drew1) | exact HB.out)⟩⟩
      case round =>
        clear H'
        try clear c1
        try clear p2
        try clear c3
        try clear c3b0
        try clear c3b1
        try clear c5
        try clear c7
        try clear c7b0
        try clear c7b1
        try clear c9
        obtain ⟨x7_1, x30_1, rfl, rfl, HA, HK1, HO_5, HO_28, HB⟩ := hrel
        cases gk with
        | zero => exact absurd HA.out (by simp [counterfoillaw14_SegSizes.l0])
        | succ k1 =>
          have H := HA.out
          clear HA
          simp only [counterfoillaw14_SegSizes.l0] at H
          by_cases c10 : x30_1 < (t160.length : Int)
          · rw [if_pos c10] at H
            have c10b0 : decide (x30_1 < (t160.length : Int)) = true := decide_eq_true c10
            clear c10
            by_cases c11 : 0 ≤ x30_1
            · rw [if_pos c11] at H
              have c11b0 : decide (0 ≤ x30_1) = true := decide_eq_true c11
              clear c11
              by_cases c12 : x30_1 < (t160.length : Int)
              · rw [if_pos c12] at H
                have c12b0 : decide (x30_1 < (t160.length : Int)) = true := decide_eq_true c12
                clear c12
                by_cases c13 : ((rdOf ByteArray.empty t160 x30_1).size : Int) < 4
                · rw [if_pos c13] at H
                  have c13b0 : decide (((rdOf ByteArray.empty t160 x30_1).size : Int) < 4) = true := decide_eq_true c13
                  have c13b1 : decide ((rdOf ByteArray.empty t160 x30_1).size < 4) = true := decide_eq_true (by omega)
                  clear c13
                  obtain rfl := Option.some.inj H
                  have p165 : 0 ≤ (x30_1 : Int) := of_decide_eq_true (by first | (with_reducible assumption) | assumption)
                  have q165 : x30_1 < (t160.length : Int) := of_decide_eq_true (by first | (with_reducible assumption) | assumption)
                  obtain ⟨ad165, e165, hx165_0⟩ := Kd.at_string (Kd.R_reads' HO_28.out).2.2 x30_1 p165 q165
                  cases e165
                  replace p165 := eq_true p165
                  replace q165 := eq_true q165
                  go_wp2
                  go_ret
                  exact ⟨by first | rfl | (simp [errW_none, errW_some] <;> rfl) | (simp [*, errW_none, errW_some] <;> rfl), by repeat (first | (with_reducible first | exact HB.out | apply below_alloc | apply pw_below_drewN | apply below_drew1) | exact HB.out)⟩
                · rw [if_neg c13] at H
                  have c13b0 : decide (((rdOf ByteArray.empty t160 x30_1).size : Int) < 4) = false := decide_eq_false c13
                  have c13b1 : decide ((rdOf ByteArray.empty t160 x30_1).size < 4) = false := decide_eq_false (by omega)
                  clear c13
                  by_cases c14 : (wrap64 (((rdOf ByteArray.empty t160 x30_1).size : Int) - 4)) > a1
                  · rw [if_pos c14] at H
                    have c14b0 : decide (a1 < (wrap64 (((rdOf ByteArray.empty t160 x30_1).size : Int) - 4))) = true := decide_eq_true c14
                    clear c14
                    obtain rfl := Option.some.inj H
                    have p165 : 0 ≤ (x30_1 : Int) := of_decide_eq_true (by first | (with_reducible assumption) | assumption)
                    have q165 : x30_1 < (t160.length : Int) := of_decide_eq_true (by first | (with_reducible assumption) | assumption)
                    obtain ⟨ad165, e165, hx165_0⟩ := Kd.at_string (Kd.R_reads' HO_28.out).2.2 x30_1 p165 q165
                    cases e165
                    replace p165 := eq_true p165
                    replace q165 := eq_true q165
                    go_wp2
                    go_ret
                    exact ⟨by first | rfl | (simp [errW_none, errW_some] <;> rfl) | (simp [*, errW_none, errW_some] <;> rfl), by repeat (first | (with_reducible first | exact HB.out | apply below_alloc | apply pw_below_drewN | apply below_drew1) | exact HB.out)⟩
                  · rw [if_neg c14] at H
                    have c14b0 : decide (a1 < (wrap64 (((rdOf ByteArray.empty t160 x30_1).size : Int) - 4))) = false := decide_eq_false c14
                    clear c14
                    by_cases c15 : (wrap64 (x30_1 + 1)) < (t160.length : Int)
                    · rw [if_pos c15] at H
                      have c15b0 : decide ((wrap64 (x30_1 + 1)) < (t160.length : Int)) = true := decide_eq_true c15
                      clear c15
                      by_cases c16 : (wrap64 (((rdOf ByteArray.empty t160 x30_1).size : Int) - 4)) = a1
                      · rw [if_pos c16] at H
                        have c16b0 : ((wrap64 (((rdOf ByteArray.empty t160 x30_1).size : Int) - 4)) == a1) = true := beq_iff_eq.mpr c16
                        have c16b1 : ((wrap64 (((rdOf ByteArray.empty t160 x30_1).size : Int) - 4)) != a1) = false := bne_eq_false_iff_eq.mpr c16
                        clear c16
                        by_cases c17 : 4 ≤ ((rdOf ByteArray.empty t160 x30_1).size : Int)
                        · rw [if_pos c17] at H
                          have c17b0 := eq_true c17
                          have c17b1 : decide (4 ≤ ((rdOf ByteArray.empty t160 x30_1).size : Int)) = true := decide_eq_true c17
                          clear c17
                          by_cases c18 : x7_1.size + ((rdOf ByteArray.empty t160 x30_1).extract 4 (rdOf ByteArray.empty t160 x30_1).size).size ≤ 9223372036854775807
                          · rw [if_pos c18] at H
                            have c18b0 := eq_true c18
                            have c18b1 : decide (x7_1.size + ((rdOf ByteArray.empty t160 x30_1).extract 4 (rdOf ByteArray.empty t160 x30_1).size).size ≤ 9223372036854775807) = true := decide_eq_true c18
                            try have c18b2 : (9223372036854775807 < x7_1.size + ((rdOf ByteArray.empty t160 x30_1).extract 4 (rdOf ByteArray.empty t160 x30_1).size).size) = False := eq_false (Nat.not_lt.2 c18)
                            have H' := Aside0.mk H
                            clear H
                            have p165 : 0 ≤ (x30_1 : Int) := of_decide_eq_true (by first | (with_reducible assumption) | assumption)
                            have q165 : x30_1 < (t160.length : Int) := of_decide_eq_true (by first | (with_reducible assumption) | assumption)
                            obtain ⟨ad165, e165, hx165_0⟩ := Kd.at_string (Kd.R_reads' HO_28.out).2.2 x30_1 p165 q165
                            cases e165
                            replace p165 := eq_true p165
                            replace q165 := eq_true q165
                            go_wp2
                            go_roundg k1
                            case measure => have := HK1.out; omega
                            case rel => exact ⟨(x7_1 ++ ((rdOf ByteArray.empty t160 x30_1).extract 4 (rdOf ByteArray.empty t160 x30_1).size)), (wrap64 (x30_1 + 1)), (by first | rfl | (simp; done) | (simp [*]; done)), (by first | rfl | (simp; done) | (simp [*]; done)), H', ⟨by have := HK1.out; omega⟩, ⟨by (with_reducible repeat (first | apply Kd.R_alloc | apply Kd.R_drewN | apply Kd.R_drew)); exact HO_5.out⟩, ⟨by (with_reducible repeat (first | apply Kd.R_alloc | apply Kd.R_drewN | apply Kd.R_drew)); exact HO_28.out⟩, ⟨by repeat (first | (with_reducible first | exact HB.out | apply below_alloc | apply pw_below_drewN | apply below_drew1) | exact HB.out)⟩⟩
                          · rw [if_neg c18] at H
                            exact absurd H (by simp)
                        · rw [if_neg c17] at H
                          exact absurd H (by simp)
                      · rw [if_neg c16] at H
                        have c16b0 : ((wrap64 (((rdOf ByteArray.empty t160 x30_1).size : Int) - 4)) == a1) = false := beq_eq_false_iff_ne.mpr c16
                        have c16b1 : ((wrap64 (((rdOf ByteArray.empty t160 x30_1).size : Int) - 4)) != a1) = true := bne_iff_ne.mpr c16
                        obtain rfl := Option.some.inj H
                        have p165 : 0 ≤ (x30_1 : Int) := of_decide_eq_true (by first | (with_reducible assumption) | assumption)
                        have q165 : x30_1 < (t160.length : Int) := of_decide_eq_true (by first | (with_reducible assumption) | assumption)
                        obtain ⟨ad165, e165, hx165_0⟩ := Kd.at_string (Kd.R_reads' HO_28.out).2.2 x30_1 p165 q165
                        cases e165
                        replace p165 := eq_true p165
                        replace q165 := eq_true q165
                        go_wp2
                        go_ret
                        exact ⟨by first | rfl | (simp [errW_none, errW_some] <;> rfl) | (simp [*, errW_none, errW_some] <;> rfl), by repeat (first | (with_reducible first | exact HB.out | apply below_alloc | apply pw_below_drewN | apply below_drew1) | exact HB.out)⟩
                    · rw [if_neg c15] at H
                      have c15b0 : decide ((wrap64 (x30_1 + 1)) < (t160.length : Int)) = false := decide_eq_false c15
                      clear c15
                      by_cases c19 : 4 ≤ ((rdOf ByteArray.empty t160 x30_1).size : Int)
                      · rw [if_pos c19] at H
                        have c19b0 := eq_true c19
                        have c19b1 : decide (4 ≤ ((rdOf ByteArray.empty t160 x30_1).size : Int)) = true := decide_eq_true c19
                        clear c19
                        by_cases c20 : x7_1.size + ((rdOf ByteArray.empty t160 x30_1).extract 4 (rdOf ByteArray.empty t160 x30_1).size).size ≤ 9223372036854775807
                        · rw [if_pos c20] at H
                          have c20b0 := eq_true c20
                          have c20b1 : decide (x7_1.size + ((rdOf ByteArray.empty t160 x30_1).extract 4 (rdOf ByteArray.empty t160 x30_1).size).size ≤ 9223372036854775807) = true := decide_eq_true c20
                          try have c20b2 : (9223372036854775807 < x7_1.size + ((rdOf ByteArray.empty t160 x30_1).extract 4 (rdOf ByteArray.empty t160 x30_1).size).size) = False := eq_false (Nat.not_lt.2 c20)
                          have H' := Aside0.mk H
                          clear H
                          have p165 : 0 ≤ (x30_1 : Int) := of_decide_eq_true (by first | (with_reducible assumption) | assumption)
                          have q165 : x30_1 < (t160.length : Int) := of_decide_eq_true (by first | (with_reducible assumption) | assumption)
                          obtain ⟨ad165, e165, hx165_0⟩ := Kd.at_string (Kd.R_reads' HO_28.out).2.2 x30_1 p165 q165
                          cases e165
                          replace p165 := eq_true p165
                          replace q165 := eq_true q165
                          go_wp2
                          go_roundg k1
                          case measure => have := HK1.out; omega
                          case rel => exact ⟨(x7_1 ++ ((rdOf ByteArray.empty t160 x30_1).extract 4 (rdOf ByteArray.empty t160 x30_1).size)), (wrap64 (x30_1 + 1)), (by first | rfl | (simp; done) | (simp [*]; done)), (by first | rfl | (simp; done) | (simp [*]; done)), H', ⟨by have := HK1.out; omega⟩, ⟨by (with_reducible repeat (first | apply Kd.R_alloc | apply Kd.R_drewN | apply Kd.R_drew)); exact HO_5.out⟩, ⟨by (with_reducible repeat (first | apply Kd.R_alloc | apply Kd.R_drewN | apply Kd.R_drew)); exact HO_28.out⟩, ⟨by repeat (first | (with_reducible first | exact HB.out | apply below_alloc | apply pw_below_drewN | apply below_drew1) | exact HB.out)⟩⟩
                        · rw [if_neg c20] at H
                          exact absurd H (by simp)
                      · rw [if_neg c19] at H
                        exact absurd H (by simp)
              · rw [if_neg c12] at H
                exact absurd H (by simp)
            · rw [if_neg c11] at H
              exact absurd H (by simp)
          · rw [if_neg c10] at H
            have c10b0 : decide (x30_1 < (t160.length : Int)) = false := decide_eq_false c10
            clear c10
            by_cases c21 : x7_1.toList = a0.toList
            · rw [if_pos c21] at H
              have c21b0 : (x7_1.toList == a0.toList) = true := beq_iff_eq.mpr c21
              have c21b1 : (x7_1.toList != a0.toList) = false := bne_eq_false_iff_eq.mpr c21
              clear c21
              by_cases c22 : (t160.length : Int) > 0
              · rw [if_pos c22] at H
                have c22b0 : decide (0 < (t160.length : Int)) = true := decide_eq_true c22
                have c22b1 : decide (0 < t160.length) = true := decide_eq_true (by omega)
                clear c22
                replace H := Option.bind_eq_some_iff.mp H
                obtain ⟨t166, A230, H⟩ := H
                replace H : (some t166) = some r := H
                have A23 := Aside0.mk A230
                clear A230
                obtain rfl := Option.some.inj H
                go_wp2_with (first | (go_at_call 9; (with_reducible refine (counterfoillaw14_awake.calls k1  t166 _ A23.out).mono ?_); rintro e w24 ⟨rfl, hb⟩; have n0_ := Aside0.mk (Kd.R_below (by (with_reducible repeat (first | apply Kd.R_alloc | apply Kd.R_drewN | apply Kd.R_drew)); exact HO_5.out) hb); have n1_ := Aside0.mk (Kd.R_below (by (with_reducible repeat (first | apply Kd.R_alloc | apply Kd.R_drewN | apply Kd.R_drew)); exact HO_28.out) hb); have n2_ := Aside0.mk (below_step (by repeat (first | (with_reducible first | exact HB.out | apply below_alloc | apply pw_below_drewN | apply below_drew1) | exact HB.out)) hb); clear HO_5; clear HO_28; clear HB; have HO_5 := n0_; have HO_28 := n1_; have HB := n2_; clear n0_ n1_ n2_; (try clear hb); (try clear hb2); (try clear hk); (try clear hi)))
                go_ret
                exact ⟨by first | rfl | (simp [errW_none, errW_some] <;> rfl) | (simp [*, errW_none, errW_some] <;> rfl), by repeat (first | (with_reducible first | exact HB.out | apply below_alloc | apply pw_below_drewN | apply below_drew1) | exact HB.out)⟩
              · rw [if_neg c22] at H
                have c22b0 : decide (0 < (t160.length : Int)) = false := decide_eq_false c22
                have c22b1 : decide (0 < t160.length) = false := decide_eq_false (by omega)
                clear c22
                obtain rfl := Option.some.inj H
                go_wp2
                go_ret
                exact ⟨by first | rfl | (simp [errW_none, errW_some] <;> rfl) | (simp [*, errW_none, errW_some] <;> rfl), by repeat (first | (with_reducible first | exact HB.out | apply below_alloc | apply pw_below_drewN | apply below_drew1) | exact HB.out)⟩
            · rw [if_neg c21] at H
              have c21b0 : (x7_1.toList == a0.toList) = false := beq_eq_false_iff_ne.mpr c21
              have c21b1 : (x7_1.toList != a0.toList) = true := bne_iff_ne.mpr c21
              obtain rfl := Option.some.inj H
              go_wp2
              go_ret
              exact ⟨by first | rfl | (simp [errW_none, errW_some] <;> rfl) | (simp [*, errW_none, errW_some] <;> rfl), by repeat (first | (with_reducible first | exact HB.out | apply below_alloc | apply pw_below_drewN | apply below_drew1) | exact HB.out)⟩
    · rw [if_neg c7] at H
      have c7b0 : (t161 == 0) = false := beq_eq_false_iff_ne.mpr c7
      have c7b1 : (t161 != 0) = true := bne_iff_ne.mpr c7
      by_cases c25 : (t160.length : Int) = 0
      · rw [if_pos c25] at H
        have c25b0 : ((t160.length : Int) == 0) = true := beq_iff_eq.mpr c25
        have c25b1 : ((t160.length : Int) != 0) = false := bne_eq_false_iff_eq.mpr c25
        clear c25
        replace H := Option.bind_eq_some_iff.mp H
        obtain ⟨t164, A260, H⟩ := H
        replace H : (some t164) = some r := H
        have A26 := Aside0.mk A260
        clear A260
        obtain rfl := Option.some.inj H
        go_enter Try.func5, Try.ntmps5
        go_wp2_with (first | ((with_reducible refine gate_callee (f := 10) rfl ?_); refine goesL_ (some 17) rfl rfl Try.func10 (by kernel_rfl) rfl #[.string a0, .int .i64 a1] rfl (by (try simp only [List.map_toArray, List.map_cons, List.map_nil]); first | done | rfl | (simp only [List.length_drop, List.length_take]; rfl)) ?_; (with_reducible refine (seg_Cut.calls k a0 a1 t160 t161 _ A6.out).mono ?_); rintro e w27 ⟨v162, rfl, ho0, hb⟩; refine ⟨_, rfl, ?_⟩; have n0_ := Aside0.mk (Kd.R_lower ho0 (below_size (by repeat (first | (with_reducible first | exact HB.out | apply below_alloc | apply pw_below_drewN | apply below_drew1) | exact HB.out)))); have n1_ := Aside0.mk (below_step (by repeat (first | (with_reducible first | exact HB.out | apply below_alloc | apply pw_below_drewN | apply below_drew1) | exact HB.out)) hb); clear HB; have HO163 := n0_; have HB := n1_; clear n0_ n1_; (try clear hb); (try clear hb2); (try clear hk); (try clear hi); (try clear ho0); obtain ⟨Ao28, co28, eo28⟩ := Kd.R_slice HO163.out; subst eo28) | (go_at_call 9; (with_reducible refine (counterfoillaw14_awake.calls k  t164 _ A26.out).mono ?_); rintro e w29 ⟨rfl, hb⟩; have n0_ := Aside0.mk (Kd.R_below (by (with_reducible repeat (first | apply Kd.R_alloc | apply Kd.R_drewN | apply Kd.R_drew)); exact HO163.out) hb); have n1_ := Aside0.mk (below_step (by repeat (first | (with_reducible first | exact HB.out | apply below_alloc | apply pw_below_drewN | apply below_drew1) | exact HB.out)) hb); clear HO163; clear HB; have HO163 := n0_; have HB := n1_; clear n0_ n1_; (try clear hb); (try clear hb2); (try clear hk); (try clear hi)))
        go_ret
        exact ⟨by first | rfl | (simp [errW_none, errW_some] <;> rfl) | (simp [*, errW_none, errW_some] <;> rfl), by repeat (first | (with_reducible first | exact HB.out | apply below_alloc | apply pw_below_drewN | apply below_drew1) | exact HB.out)⟩
      · rw [if_neg c25] at H
        have c25b0 : ((t160.length : Int) == 0) = false := beq_eq_false_iff_ne.mpr c25
        have c25b1 : ((t160.length : Int) != 0) = true := bne_iff_ne.mpr c25
        have c25b2 : ¬ (t160 = []) := fun h_ => c25 (by rw [h_]; rfl)
        obtain rfl := Option.some.inj H
        go_enter Try.func5, Try.ntmps5
        go_wp2_with (first | ((with_reducible refine gate_callee (f := 10) rfl ?_); refine goesL_ (some 17) rfl rfl Try.func10 (by kernel_rfl) rfl #[.string a0, .int .i64 a1] rfl (by (try simp only [List.map_toArray, List.map_cons, List.map_nil]); first | done | rfl | (simp only [List.length_drop, List.length_take]; rfl)) ?_; (with_reducible refine (seg_Cut.calls k a0 a1 t160 t161 _ A6.out).mono ?_); rintro e w30 ⟨v162, rfl, ho0, hb⟩; refine ⟨_, rfl, ?_⟩; have n0_ := Aside0.mk (Kd.R_lower ho0 (below_size (by repeat (first | (with_reducible first | exact HB.out | apply below_alloc | apply pw_below_drewN | apply below_drew1) | exact HB.out)))); have n1_ := Aside0.mk (below_step (by repeat (first | (with_reducible first | exact HB.out | apply below_alloc | apply pw_below_drewN | apply below_drew1) | exact HB.out)) hb); clear HB; have HO163 := n0_; have HB := n1_; clear n0_ n1_; (try clear hb); (try clear hb2); (try clear hk); (try clear hi); (try clear ho0); obtain ⟨Ao31, co31, eo31⟩ := Kd.R_slice HO163.out; subst eo31))
        go_ret
        exact ⟨by first | rfl | (simp [errW_none, errW_some] <;> rfl) | (simp [*, errW_none, errW_some] <;> rfl), by repeat (first | (with_reducible first | exact HB.out | apply below_alloc | apply pw_below_drewN | apply below_drew1) | exact HB.out)⟩

/-- THE ONE PURE STATEMENT of counterfoillaw14_SegSizes: yours. -/
def counterfoillaw14_SegSizes.Pure : Prop := ∀ (a0 : ByteArray) (a1 : Int), a0.size ≤ 140737488351232 → (Lit.int .i64 a1).wf = true → ∃ k, counterfoillaw14_SegSizes.f k a0 a1 = some true
theorem counterfoillaw14_SegSizes.walk (P : counterfoillaw14_SegSizes.Pure) (a0 : ByteArray) (a1 : Int) (w : World) (w0 : a0.size ≤ 140737488351232) (w1 : (Lit.int .i64 a1).wf = true) :
    Calls Try.prog 5 #[.string a0, .int .i64 a1] w fun e w' => e = .returned (.bool true) ∧ Below w.heap.size w w' := by
  obtain ⟨k, h⟩ := P a0 a1 w0 w1
  refine (counterfoillaw14_SegSizes.calls k a0 a1 true w h).mono ?_
  rintro e w' ⟨rfl, hd⟩
  exact ⟨rfl, hd⟩

/-! ### counterfoilref01_Small: function 13 -/
def counterfoilref01_Small.l0 : Nat → List ByteArray → Int → Int → Int → Option (Bool)
  | 0, _, _, _, _ => none
  | k + 1, x0, x2, x7, x8 => if x8 < (x0.length : Int) then (if 0 ≤ x8 then (if ((rdOf ByteArray.empty x0 x8).size : Int) > x2 then (some false) else (if (wrap64 (x7 + ((rdOf ByteArray.empty x0 x8).size : Int))) > x2 then (some false) else (counterfoilref01_Small.l0 k x0 x2 (wrap64 (x7 + ((rdOf ByteArray.empty x0 x8).size : Int))) (wrap64 (x8 + 1))))) else (none)) else (some true)
def counterfoilref01_Small.f (k : Nat) (l0 : List ByteArray) (a1 : Int) (a2 : Int) : Option (Bool) := if (l0.length : Int) > a1 then (some false) else (counterfoilref01_Small.l0 k l0 a2 0 0)
theorem counterfoilref01_Small.mono_l : ∀ k, (∀ y0 y1 y2 y3, LeO (counterfoilref01_Small.l0 k y0 y1 y2 y3) (counterfoilref01_Small.l0 (k + 1) y0 y1 y2 y3))
  | 0 => fun _ _ _ _ r h => by simp [counterfoilref01_Small.l0] at h
  | k + 1 => by
    have ih0 := counterfoilref01_Small.mono_l k
    · intro y0 y1 y2 y3
      unfold counterfoilref01_Small.l0
      repeat' first
      | (with_reducible exact ih0 _ _ _ _)
      | (with_reducible exact LeO.refl _)
      | (with_reducible exact LeO.none _)
      | (with_reducible refine LeO.ite ?_ ?_)
      | (with_reducible refine LeO.bind ?_ (fun _ => ?_))
      | exact ih0 _ _ _ _
      | exact LeO.none _
      | refine LeO.ite ?_ ?_
      | refine LeO.bind ?_ (fun _ => ?_)
theorem counterfoilref01_Small.mono : ∀ a0 a1 a2 k, LeO (counterfoilref01_Small.f k a0 a1 a2) (counterfoilref01_Small.f (k + 1) a0 a1 a2) := by
  intro a0 a1 a2 k
  have ih0 := counterfoilref01_Small.mono_l k
  unfold counterfoilref01_Small.f
  repeat' first
      | (with_reducible exact ih0 _ _ _ _)
      | (with_reducible exact LeO.refl _)
      | (with_reducible exact LeO.none _)
      | (with_reducible refine LeO.ite ?_ ?_)
      | (with_reducible refine LeO.bind ?_ (fun _ => ?_))
      | exact ih0 _ _ _ _
      | exact LeO.none _
      | refine LeO.ite ?_ ?_
      | refine LeO.bind ?_ (fun _ => ?_)
set_option maxHeartbeats 8000000 in
set_option maxRecDepth 100000 in
theorem counterfoilref01_Small.calls (k : Nat) (A0 : Option Addr) (c0 : Nat) (l0 : List ByteArray) (a1 : Int) (a2 : Int) (r : Bool) (w : World) (hr0 : Kd.C Kd.string w A0 l0.length l0) (hc0 : l0.length ≤ c0) (h : counterfoilref01_Small.f k l0 a1 a2 = some r) :
    Calls Try.prog 13 #[.slice A0 l0.length c0, .int .i64 a1, .int .i64 a2] w fun e w' => e = .returned (.bool r) ∧ Drawn0 w w' := by
  have HR0 := Aside0.mk hr0
  have HC0 := Aside0.mk hc0
  clear hr0 hc0
  have H : (if (l0.length : Int) > a1 then (some false) else (counterfoilref01_Small.l0 k l0 a2 0 0)) = some r := h
  clear h
  by_cases c4 : (l0.length : Int) > a1
  · rw [if_pos c4] at H
    have c4b0 : decide (a1 < (l0.length : Int)) = true := decide_eq_true c4
    clear c4
    obtain rfl := Option.some.inj H
    go_enter Try.func13, Try.ntmps13
    go_wp2
    go_ret
    exact ⟨by first | rfl | (simp; done) | (simp [*]; done), by repeat (first | exact Drawn0.refl _ | apply Drawn0.step)⟩
  · rw [if_neg c4] at H
    have c4b0 : decide (a1 < (l0.length : Int)) = false := decide_eq_false c4
    clear c4
    have H' := Aside0.mk H
    clear H
    go_enter Try.func13, Try.ntmps13
    go_wp2
    go_loopg [7, 8] k (fun kq v7 v8 w' => ∃ (x7_1 : Int) (x8_1 : Int), v7 = .int .i64 x7_1 ∧ v8 = .int .i64 x8_1 ∧ Aside0 (counterfoilref01_Small.l0 kq l0 a2 x7_1 x8_1 = some r) ∧ Aside0 (kq ≤ k) ∧ Drawn0 w w')
    case atStart => exact ⟨(0), (0), (by first | rfl | (simp; done) | (simp [*]; done)), (by first | rfl | (simp; done) | (simp [*]; done)), H', ⟨Nat.le_refl _⟩, by repeat (first | exact Drawn0.refl _ | apply Drawn0.step)⟩
    case round =>
      clear H'
      try clear c1
      try clear p2
      try clear c4
      try clear c4b0
      obtain ⟨x7_1, x8_1, rfl, rfl, HA, HK1, ⟨m1, rfl⟩⟩ := hrel
      cases gk with
      | zero => exact absurd HA.out (by simp [counterfoilref01_Small.l0])
      | succ k1 =>
        have H := HA.out
        clear HA
        simp only [counterfoilref01_Small.l0] at H
        by_cases c5 : x8_1 < (l0.length : Int)
        · rw [if_pos c5] at H
          have c5b0 : decide (x8_1 < (l0.length : Int)) = true := decide_eq_true c5
          clear c5
          by_cases c6 : 0 ≤ x8_1
          · rw [if_pos c6] at H
            have c6b0 : decide (0 ≤ x8_1) = true := decide_eq_true c6
            clear c6
            by_cases c7 : ((rdOf ByteArray.empty l0 x8_1).size : Int) > a2
            · rw [if_pos c7] at H
              have c7b0 : decide (a2 < ((rdOf ByteArray.empty l0 x8_1).size : Int)) = true := decide_eq_true c7
              clear c7
              obtain rfl := Option.some.inj H
              have p167 : 0 ≤ (x8_1 : Int) := of_decide_eq_true (by first | (with_reducible assumption) | assumption)
              have q167 : x8_1 < (l0.length : Int) := of_decide_eq_true (by first | (with_reducible assumption) | assumption)
              obtain ⟨ad167, e167, hx167_0⟩ := Kd.at_string HR0.out x8_1 p167 q167
              cases e167
              replace p167 := eq_true p167
              replace q167 := eq_true q167
              go_wp2
              go_ret
              exact ⟨by first | rfl | (simp; done) | (simp [*]; done), by repeat (first | exact Drawn0.refl _ | apply Drawn0.step)⟩
            · rw [if_neg c7] at H
              have c7b0 : decide (a2 < ((rdOf ByteArray.empty l0 x8_1).size : Int)) = false := decide_eq_false c7
              clear c7
              by_cases c8 : (wrap64 (x7_1 + ((rdOf ByteArray.empty l0 x8_1).size : Int))) > a2
              · rw [if_pos c8] at H
                have c8b0 : decide (a2 < (wrap64 (x7_1 + ((rdOf ByteArray.empty l0 x8_1).size : Int)))) = true := decide_eq_true c8
                clear c8
                obtain rfl := Option.some.inj H
                have p167 : 0 ≤ (x8_1 : Int) := of_decide_eq_true (by first | (with_reducible assumption) | assumption)
                have q167 : x8_1 < (l0.length : Int) := of_decide_eq_true (by first | (with_reducible assumption) | assumption)
                obtain ⟨ad167, e167, hx167_0⟩ := Kd.at_string HR0.out x8_1 p167 q167
                cases e167
                replace p167 := eq_true p167
                replace q167 := eq_true q167
                have p168 : 0 ≤ (x8_1 : Int) := of_decide_eq_true (by first | (with_reducible assumption) | assumption)
                have q168 : x8_1 < (l0.length : Int) := of_decide_eq_true (by first | (with_reducible assumption) | assumption)
                obtain ⟨ad168, e168, hx168_0⟩ := Kd.at_string HR0.out x8_1 p168 q168
                obtain rfl : ad167 = ad168 := (by injection e168)
                replace p168 := eq_true p168
                replace q168 := eq_true q168
                go_wp2
                go_ret
                exact ⟨by first | rfl | (simp; done) | (simp [*]; done), by repeat (first | exact Drawn0.refl _ | apply Drawn0.step)⟩
              · rw [if_neg c8] at H
                have c8b0 : decide (a2 < (wrap64 (x7_1 + ((rdOf ByteArray.empty l0 x8_1).size : Int)))) = false := decide_eq_false c8
                clear c8
                have H' := Aside0.mk H
                clear H
                have p167 : 0 ≤ (x8_1 : Int) := of_decide_eq_true (by first | (with_reducible assumption) | assumption)
                have q167 : x8_1 < (l0.length : Int) := of_decide_eq_true (by first | (with_reducible assumption) | assumption)
                obtain ⟨ad167, e167, hx167_0⟩ := Kd.at_string HR0.out x8_1 p167 q167
                cases e167
                replace p167 := eq_true p167
                replace q167 := eq_true q167
                have p168 : 0 ≤ (x8_1 : Int) := of_decide_eq_true (by first | (with_reducible assumption) | assumption)
                have q168 : x8_1 < (l0.length : Int) := of_decide_eq_true (by first | (with_reducible assumption) | assumption)
                obtain ⟨ad168, e168, hx168_0⟩ := Kd.at_string HR0.out x8_1 p168 q168
                obtain rfl : ad167 = ad168 := (by injection e168)
                replace p168 := eq_true p168
                replace q168 := eq_true q168
                go_wp2
                go_roundg k1
                case measure => have := HK1.out; omega
                case rel => exact ⟨(wrap64 (x7_1 + ((rdOf ByteArray.empty l0 x8_1).size : Int))), (wrap64 (x8_1 + 1)), (by first | rfl | (simp; done) | (simp [*]; done)), (by first | rfl | (simp; done) | (simp [*]; done)), H', ⟨by have := HK1.out; omega⟩, by repeat (first | exact Drawn0.refl _ | apply Drawn0.step)⟩
          · rw [if_neg c6] at H
            exact absurd H (by simp)
        · rw [if_neg c5] at H
          have c5b0 : decide (x8_1 < (l0.length : Int)) = false := decide_eq_false c5
          clear c5
          obtain rfl := Option.some.inj H
          go_wp2
          go_ret
          exact ⟨by first | rfl | (simp; done) | (simp [*]; done), by repeat (first | exact Drawn0.refl _ | apply Drawn0.step)⟩

/-! ### octet_Get: function 20 -/
mutual
def octet_Get.j0 : Nat → ByteArray → Bool → Option (Int × Int)
  | 0, _, _ => none
  | k + 1, x0, x13 => if x13 = true then (some (0, 1)) else (octet_Get.l0 k x0 0 (x0.size : Int) 0)
def octet_Get.l0 : Nat → ByteArray → Int → Int → Int → Option (Int × Int)
  | 0, _, _, _, _ => none
  | k + 1, x0, x4, x15, x16 => if x16 < x15 then (if 0 ≤ x16 then (if x16 < (x0.size : Int) then (octet_Get.l0 k x0 (Go.bits .or .u64 (IntKind.u64.wrap (x4 * 256)) (IntKind.u64.wrap (bt x0 x16))) x15 (wrap64 (x16 + 1))) else (none)) else (none)) else (if x4 > 9223372036854775807 then (some (0, 10)) else (some (wrap64 (x4), 0)))
end
def octet_Get.f (k : Nat) (a0 : ByteArray) : Option (Int × Int) := if (a0.size : Int) < 1 then (octet_Get.j0 k a0 true) else (octet_Get.j0 k a0 (decide ((a0.size : Int) > 8)))
theorem octet_Get.mono_l : ∀ k, (∀ y0 y1, LeO (octet_Get.j0 k y0 y1) (octet_Get.j0 (k + 1) y0 y1)) ∧ (∀ y0 y1 y2 y3, LeO (octet_Get.l0 k y0 y1 y2 y3) (octet_Get.l0 (k + 1) y0 y1 y2 y3))
  | 0 => ⟨fun _ _ r h => by simp [octet_Get.j0] at h, fun _ _ _ _ r h => by simp [octet_Get.l0] at h⟩
  | k + 1 => by
    obtain ⟨ih0, ih1⟩ := octet_Get.mono_l k
    refine ⟨?_, ?_⟩
    · intro y0 y1
      unfold octet_Get.j0
      repeat' first
      | (with_reducible exact ih0 _ _)
      | (with_reducible exact ih1 _ _ _ _)
      | (with_reducible exact LeO.refl _)
      | (with_reducible exact LeO.none _)
      | (with_reducible refine LeO.ite ?_ ?_)
      | (with_reducible refine LeO.bind ?_ (fun _ => ?_))
      | exact ih0 _ _
      | exact ih1 _ _ _ _
      | exact LeO.none _
      | refine LeO.ite ?_ ?_
      | refine LeO.bind ?_ (fun _ => ?_)
    · intro y0 y1 y2 y3
      unfold octet_Get.l0
      repeat' first
      | (with_reducible exact ih0 _ _)
      | (with_reducible exact ih1 _ _ _ _)
      | (with_reducible exact LeO.refl _)
      | (with_reducible exact LeO.none _)
      | (with_reducible refine LeO.ite ?_ ?_)
      | (with_reducible refine LeO.bind ?_ (fun _ => ?_))
      | exact ih0 _ _
      | exact ih1 _ _ _ _
      | exact LeO.none _
      | refine LeO.ite ?_ ?_
      | refine LeO.bind ?_ (fun _ => ?_)
theorem octet_Get.mono : ∀ a0 k, LeO (octet_Get.f k a0) (octet_Get.f (k + 1) a0) := by
  intro a0 k
  obtain ⟨ih0, ih1⟩ := octet_Get.mono_l k
  unfold octet_Get.f
  repeat' first
      | (with_reducible exact ih0 _ _)
      | (with_reducible exact ih1 _ _ _ _)
      | (with_reducible exact LeO.refl _)
      | (with_reducible exact LeO.none _)
      | (with_reducible refine LeO.ite ?_ ?_)
      | (with_reducible refine LeO.bind ?_ (fun _ => ?_))
      | exact ih0 _ _
      | exact ih1 _ _ _ _
      | exact LeO.none _
      | refine LeO.ite ?_ ?_
      | refine LeO.bind ?_ (fun _ => ?_)
set_option maxHeartbeats 8000000 in
set_option maxRecDepth 100000 in
theorem octet_Get.calls (k : Nat) (a0 : ByteArray) (r1 : Int) (r2 : Int) (w : World) (h : octet_Get.f k a0 = some (r1, r2)) :
    Calls Try.prog 20 #[.string a0] w fun e w' => e = .returned (.tuple #[.int .i64 r1, .int .i64 r2]) ∧ Drawn0 w w' := by
  have H : (if (a0.size : Int) < 1 then (octet_Get.j0 k a0 true) else (octet_Get.j0 k a0 (decide ((a0.size : Int) > 8)))) = some (r1, r2) := h
  clear h
  have HC2 := Aside0.mk H
  clear H
  go_enter Try.func20, Try.ntmps20
  go_upto_region 1 with (fail)
  go_cut [13] (fun v13 wc => ∃ (kq : Nat) (x13_1 : Bool), v13 = .bool x13_1 ∧ Aside0 (octet_Get.j0 kq a0 x13_1 = some (r1, r2)) ∧ Aside0 (kq ≤ k) ∧ Drawn0 w wc)
  case first =>
    have H := HC2.out
    clear HC2
    by_cases c3 : (a0.size : Int) < 1
    · rw [if_pos c3] at H
      have c3b0 : decide ((a0.size : Int) < 1) = true := decide_eq_true c3
      have c3b1 : decide (a0.size < 1) = true := decide_eq_true (by omega)
      clear c3
      (first | rw [c3b0] | (simp only [i64_w, i32_w]; rw [c3b0]) | skip)
      have H' := Aside0.mk H
      clear H
      go_wp2
      go_meet
      case rel => exact ⟨_, (true), (by first | rfl | (simp; done) | (simp [*]; done)), H', ⟨by first | omega | exact Nat.le_refl _⟩, by repeat (first | exact Drawn0.refl _ | apply Drawn0.step)⟩
    · rw [if_neg c3] at H
      have c3b0 : decide ((a0.size : Int) < 1) = false := decide_eq_false c3
      have c3b1 : decide (a0.size < 1) = false := decide_eq_false (by omega)
      clear c3
      (first | rw [c3b0] | (simp only [i64_w, i32_w]; rw [c3b0]) | skip)
      have H' := Aside0.mk H
      clear H
      go_wp2
      go_meet
      case rel => exact ⟨_, (decide ((a0.size : Int) > 8)), (by first | rfl | (simp; done) | (simp [*]; done)), H', ⟨by first | omega | exact Nat.le_refl _⟩, by repeat (first | exact Drawn0.refl _ | apply Drawn0.step)⟩
  case rest =>
    clear HC2
    try clear c2
    try clear p2
    try clear c3
    try clear c3b0
    try clear c3b1
    obtain ⟨kq, x13_1, rfl, HA, HJ1, ⟨mc1, rfl⟩⟩ := hcut
    cases kq with
    | zero => exact absurd HA.out (by simp [octet_Get.j0])
    | succ kj1 =>
      have H := HA.out
      clear HA
      simp only [octet_Get.j0] at H
      by_cases c4 : x13_1 = true
      · subst c4
        have H1 : (some (0, 1)) = some (r1, r2) := by rw [if_pos rfl] at H; exact H
        clear H
        have H := H1
        clear H1
        simp only [Option.some.injEq, Prod.mk.injEq] at H
        obtain ⟨rfl, rfl⟩ := H
        go_wp2
        go_ret2
        exact ⟨by first | rfl | (simp; done) | (simp [*]; done), by repeat (first | exact Drawn0.refl _ | apply Drawn0.step)⟩
      · replace c4 := Bool.eq_false_iff.mpr c4
        subst c4
        have H1 : (octet_Get.l0 kj1 a0 0 (a0.size : Int) 0) = some (r1, r2) := by rw [if_neg (show ¬ (false = true) by decide)] at H; exact H
        clear H
        have H := H1
        clear H1
        have H' := Aside0.mk H
        clear H
        go_wp2
        go_loopg [4, 16] kj1 (fun kq v4 v16 w' => ∃ (x4_2 : Int) (x16_2 : Int), v4 = .int .u64 x4_2 ∧ v16 = .int .i64 x16_2 ∧ Aside0 (octet_Get.l0 kq a0 x4_2 (a0.size : Int) x16_2 = some (r1, r2)) ∧ Aside0 (kq ≤ kj1) ∧ Drawn0 w w')
        case atStart => exact ⟨(0), (0), (by first | rfl | (simp; done) | (simp [*]; done)), (by first | rfl | (simp; done) | (simp [*]; done)), H', ⟨Nat.le_refl _⟩, by repeat (first | exact Drawn0.refl _ | apply Drawn0.step)⟩
        case round =>
          clear H'
          try clear c1
          try clear c2
          try clear p2
          try clear c3
          try clear c3b0
          try clear c3b1
          try clear c4
          try clear p2
          obtain ⟨x4_2, x16_2, rfl, rfl, HA, HK2, ⟨m2, rfl⟩⟩ := hrel
          cases gk with
          | zero => exact absurd HA.out (by simp [octet_Get.l0])
          | succ k2 =>
            have H := HA.out
            clear HA
            simp only [octet_Get.l0] at H
            by_cases c5 : x16_2 < (a0.size : Int)
            · rw [if_pos c5] at H
              have c5b0 : decide (x16_2 < (a0.size : Int)) = true := decide_eq_true c5
              clear c5
              by_cases c6 : 0 ≤ x16_2
              · rw [if_pos c6] at H
                have c6b0 : decide (0 ≤ x16_2) = true := decide_eq_true c6
                clear c6
                by_cases c7 : x16_2 < (a0.size : Int)
                · rw [if_pos c7] at H
                  have c7b0 : decide (x16_2 < (a0.size : Int)) = true := decide_eq_true c7
                  clear c7
                  have H' := Aside0.mk H
                  clear H
                  have p8 : 0 ≤ (x16_2 : Int) := of_decide_eq_true (by first | (with_reducible assumption) | assumption)
                  have q8 : x16_2 < (a0.size : Int) := of_decide_eq_true (by first | (with_reducible assumption) | assumption)
                  have hx8 := bt_at a0 x16_2
                  replace p8 := eq_true p8
                  replace q8 := eq_true q8
                  go_wp2
                  go_roundg k2
                  case measure => have := HJ1.out; have := HK2.out; omega
                  case rel => exact ⟨(Go.bits .or .u64 (IntKind.u64.wrap (x4_2 * 256)) (IntKind.u64.wrap (bt a0 x16_2))), (wrap64 (x16_2 + 1)), (by first | rfl | (simp; done) | (simp [*]; done)), (by first | rfl | (simp; done) | (simp [*]; done)), H', ⟨by have := HJ1.out; have := HK2.out; omega⟩, by repeat (first | exact Drawn0.refl _ | apply Drawn0.step)⟩
                · rw [if_neg c7] at H
                  exact absurd H (by simp)
              · rw [if_neg c6] at H
                exact absurd H (by simp)
            · rw [if_neg c5] at H
              have c5b0 : decide (x16_2 < (a0.size : Int)) = false := decide_eq_false c5
              clear c5
              by_cases c9 : x4_2 > 9223372036854775807
              · rw [if_pos c9] at H
                have c9b0 : decide (9223372036854775807 < x4_2) = true := decide_eq_true c9
                clear c9
                simp only [Option.some.injEq, Prod.mk.injEq] at H
                obtain ⟨rfl, rfl⟩ := H
                go_wp2
                go_ret2
                exact ⟨by first | rfl | (simp; done) | (simp [*]; done), by repeat (first | exact Drawn0.refl _ | apply Drawn0.step)⟩
              · rw [if_neg c9] at H
                have c9b0 : decide (9223372036854775807 < x4_2) = false := decide_eq_false c9
                clear c9
                simp only [Option.some.injEq, Prod.mk.injEq] at H
                obtain ⟨rfl, rfl⟩ := H
                go_wp2
                go_ret2
                exact ⟨by first | rfl | (simp; done) | (simp [*]; done), by repeat (first | exact Drawn0.refl _ | apply Drawn0.step)⟩

end Go.Proofs.Ytafhlaehkaledaa.P
