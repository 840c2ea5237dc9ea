import Derived.Test.YtecfndblgefhdaaKzRx7
import Derived.Test.YtecfndblgefhdaaKzRx9
namespace Go.Proofs.Ytecfndblgefhdaa.R
open Go.RowKit Go.Proofs.YtecfndblgefhdaaW.PrintWords Go.Proofs.YtecfndblgefhdaaW.PrintLast Go.Proofs.YtecfndblgefhdaaW.PrintMore
attribute [local go_sem] max2_int min2_int max_two min_two max_three min_three max_four min_four
set_option linter.unusedVariables false
set_option linter.unusedSimpArgs false
mutual
def api_Write_108.l0 : Nat → List (S120) → Int → Nat → Int → Int → Int → Option ((List (S120)))
 | 0, _, _, _, _, _, _ => none
 | k + 1, x0, x1, x2, x6, x7, x8 => if x8 ≤ x1 then ((api_Write_115.f k x0 x7 x8 x2).bind fun t195 => (api_Write_108.l0 k t195 x1 x2 x6 x8 (wrap64 (x8 + x6)))) else ((api_Write_115.f k x0 x7 x1 x2).bind fun t196 => (api_Write_108.l1 k t196 x1 x2 x6))
def api_Write_108.l1 : Nat → List (S120) → Int → Nat → Int → Option ((List (S120)))
 | 0, _, _, _, _ => none
 | k + 1, x0, x1, x2, x6 => if x6 < x1 then (api_Write_108.l2 k x0 x1 x2 x6 0 (wrap64 (2 * x6))) else (some x0)
def api_Write_108.l2 : Nat → List (S120) → Int → Nat → Int → Int → Int → Option ((List (S120)))
 | 0, _, _, _, _, _, _ => none
 | k + 1, x0, x1, x2, x6, x7, x8 => if x8 ≤ x1 then ((api_Write_116.f k x0 x7 (wrap64 (x7 + x6)) x8 x2).bind fun t197 => (api_Write_108.l2 k t197 x1 x2 x6 x8 (wrap64 (x8 + (wrap64 (2 * x6)))))) else (if (wrap64 (x7 + x6)) < x1 then ((api_Write_116.f k x0 x7 (wrap64 (x7 + x6)) x1 x2).bind fun t198 => (api_Write_108.l1 k t198 x1 x2 (wrap64 (x6 * 2)))) else (api_Write_108.l1 k x0 x1 x2 (wrap64 (x6 * 2))))
end
def api_Write_108.f (k : Nat) (l0 : List (S120)) (a1 : Int) (a2 : Nat) : Option ((List (S120))) := api_Write_108.l0 k l0 a1 a2 20 0 20
set_option maxHeartbeats 8000000 in
set_option maxRecDepth 100000 in
theorem api_Write_108.calls (k : Nat) (P0_ : Nat → Prop) (u9000_ : Value) (l0 : List (S120)) (a1 : Int) (a2 : Nat) (r : List (S120)) (w0 w : World) (hB : Below w0.heap.size w0 w) (ho0 : Kd.R k120 120 w w0.heap.size P0_ u9000_ l0) (h : api_Write_108.f k l0 a1 a2 = some r) (h93 : a2 = 93 := by rfl) :
  Calls Try.prog 108 #[u9000_, .int .i64 a1, .func (.func a2) #[] #[]] w fun e w' => e = .returned (.tuple #[]) ∧ Kd.R k120 120 w' w0.heap.size (fun k_ => (P0_ k_ ∨ w.heap.size ≤ k_)) u9000_ r ∧ Below w0.heap.size w0 w' ∧ Kept w w' (fun k_ => P0_ k_) := by
 subst h93
 have HO0 := a0_ (show Kd.R k120 120 w w0.heap.size (fun k_ => (P0_ k_ ∨ w.heap.size ≤ k_)) u9000_ l0 from Kd.R_mono ho0 (fun k_ hk => (.inl hk)))
 have HK := a0_ (Kept.refl w (fun k_ => P0_ k_))
 have HW0 := a0_ hB.size
 have HB := a0_ hB
 clear hB
 have H : (api_Write_108.l0 k l0 a1 93 20 0 20) = some r := h
 clear h
 have H' := a0_ H
 clear H
 go_enter Try.func108, Try.ntmps108
 go_wp2
 (try simp only [Act.put, List.setIfInBounds_toArray, List.set_cons_zero, List.set_cons_succ])
 go_loopg [7, 8] k (fun kq v7 v8 w' => ∃ (x0_1 : List (S120)) (x7_1 : Int) (x8_1 : Int), v7 = .int .i64 x7_1 ∧ v8 = .int .i64 x8_1 ∧ Aside0 (api_Write_108.l0 kq x0_1 a1 93 20 x7_1 x8_1 = some r) ∧ Aside0 (kq ≤ k) ∧ Aside0 (Kd.R k120 120 w' w0.heap.size (fun k_ => (P0_ k_ ∨ w.heap.size ≤ k_)) u9000_ x0_1) ∧ Aside0 (Kept w w' (fun k_ => P0_ k_)) ∧ Aside0 (Below w0.heap.size w0 w'))
 case atStart => exact ⟨(l0), (0), (20), z4_, z4_, H', ⟨Nat.le_refl _⟩, ⟨z76_⟩, ⟨z77_⟩, ⟨z3_⟩⟩
 case round =>
  clear H'
  obtain ⟨x0_1, x7_1, x8_1, rfl, rfl, HA, HK1, HO_0, HK, HB⟩ := hrel
  cases gk with
  | zero => exact absurd HA.out (by simp [api_Write_108.l0])
  | succ k1 =>
   have H := HA.out
   clear HA
   simp only [api_Write_108.l0] at H
   by_cases c4 : x8_1 ≤ a1
   ·rw [if_pos c4] at H
    have c4b0 : decide (x8_1 ≤ a1) = true := decide_eq_true c4
    clear c4
    replace H := Option.bind_eq_some_iff.mp H
    obtain ⟨t195, A50, H⟩ := H
    try dsimp only at H
    have A5 := a0_ A50
    clear A50
    have H' := a0_ H
    clear H
    obtain ⟨Ao6, co6, eo6⟩ := Kd.R_slice HO_0.out
    subst eo6
    go_wp2_with (first | ((with_reducible refine gate_callee (f := 115) rfl ?_); refine goesL_ (some 18) rfl rfl Try.func115 z6_ rfl #[.slice Ao6 x0_1.length co6, .int .i64 x7_1, .int .i64 x8_1, .func (.func 93) #[] #[]] rfl z16_ ?_; (with_reducible refine (api_Write_115.calls k1 (fun k_ => some k_ = (.slice Ao6 x0_1.length co6 : Value).ownBlock) (.slice Ao6 x0_1.length co6) x0_1 x7_1 x8_1 93 t195 w0 _ ?side1 ?side2 A5.out).mono ?_); (case side1 => exact z3_); (case side2 => exact z81_); rintro e w7 ⟨rfl, hy0, hb, hkp⟩; refine ⟨_, rfl, ?_⟩; have n0_ := a0_ (Kd.R_reok rfl hy0 (fun k_ e_ => HO_0.out.1 k_ e_)); have n1_ := a0_ (Kept.then_ (S := (fun k_ => P0_ k_)) z77_ hkp (fun k_ hs_ => (fun e_ => (HO_0.out.1 k_ e_.symm)) hs_)); have n2_ := a0_ (hb); clear HO_0; clear HK; clear HB; have HO_0 := n0_; have HK := n1_; have HB := n2_; clear n0_ n1_ n2_; (try clear hb); (try clear hkp); (try clear hy0)))
    go_roundg k1
    case measure => have := HK1.out; omega
    case rel => exact ⟨(t195), (x8_1), (wrap64 (x8_1 + 20)), z4_, z4_, H', ⟨z39_⟩, ⟨z78_⟩, ⟨z77_⟩, ⟨z3_⟩⟩
   ·rw [if_neg c4] at H
    have c4b0 : decide (x8_1 ≤ a1) = false := decide_eq_false c4
    clear c4
    replace H := Option.bind_eq_some_iff.mp H
    obtain ⟨t196, A80, H⟩ := H
    try dsimp only at H
    have A8 := a0_ A80
    clear A80
    have H' := a0_ H
    clear H
    obtain ⟨Ao9, co9, eo9⟩ := Kd.R_slice HO_0.out
    subst eo9
    go_wp2_with (first | ((with_reducible refine gate_callee (f := 115) rfl ?_); refine goesL_ (some 27) rfl rfl Try.func115 z6_ rfl #[.slice Ao9 x0_1.length co9, .int .i64 x7_1, .int .i64 a1, .func (.func 93) #[] #[]] rfl z16_ ?_; (with_reducible refine (api_Write_115.calls k1 (fun k_ => some k_ = (.slice Ao9 x0_1.length co9 : Value).ownBlock) (.slice Ao9 x0_1.length co9) x0_1 x7_1 a1 93 t196 w0 _ ?side1 ?side2 A8.out).mono ?_); (case side1 => exact z3_); (case side2 => exact z81_); rintro e w10 ⟨rfl, hy0, hb, hkp⟩; refine ⟨_, rfl, ?_⟩; have n0_ := a0_ (Kd.R_reok rfl hy0 (fun k_ e_ => HO_0.out.1 k_ e_)); have n1_ := a0_ (Kept.then_ (S := (fun k_ => P0_ k_)) z77_ hkp (fun k_ hs_ => (fun e_ => (HO_0.out.1 k_ e_.symm)) hs_)); have n2_ := a0_ (hb); clear HO_0; clear HK; clear HB; have HO_0 := n0_; have HK := n1_; have HB := n2_; clear n0_ n1_ n2_; (try clear hb); (try clear hkp); (try clear hy0)))
    (try simp only [Act.put, List.setIfInBounds_toArray, List.set_cons_zero, List.set_cons_succ])
    go_loopg [6] k1 (fun kq v6 w' => ∃ (x0_2 : List (S120)) (x6_2 : Int), v6 = .int .i64 x6_2 ∧ Aside0 (api_Write_108.l1 kq x0_2 a1 93 x6_2 = some r) ∧ Aside0 (kq ≤ k1) ∧ Aside0 (Kd.R k120 120 w' w0.heap.size (fun k_ => (P0_ k_ ∨ w.heap.size ≤ k_)) (.slice Ao9 x0_1.length co9) x0_2) ∧ Aside0 (Kept w w' (fun k_ => P0_ k_)) ∧ Aside0 (Below w0.heap.size w0 w'))
    case atStart => exact ⟨(t196), (20), z4_, H', ⟨Nat.le_refl _⟩, ⟨z78_⟩, ⟨z77_⟩, ⟨z3_⟩⟩
    case round =>
     clear H'
     obtain ⟨x0_2, x6_2, rfl, HA, HK2, HO_0, HK, HB⟩ := hrel
     have hl0_2 := (Kd.R_reads' HO_0.out).1
     rw [hl0_2] at HO_0
     (try simp only [hl0_2])
     cases gk with
     | zero => exact absurd HA.out (by simp [api_Write_108.l1])
     | succ k2 =>
      have H := HA.out
      clear HA
      simp only [api_Write_108.l1] at H
      by_cases c11 : x6_2 < a1
      ·rw [if_pos c11] at H
       have c11b0 : decide (x6_2 < a1) = true := decide_eq_true c11
       clear c11
       (try (have c11b0x := c11b0; simp only [hl0_2] at c11b0x))
       have H' := a0_ H
       clear H
       go_wp2
       (try simp only [Act.put, List.setIfInBounds_toArray, List.set_cons_zero, List.set_cons_succ])
       go_loopg [7, 8] k2 (fun kq v7 v8 w' => ∃ (x0_3 : List (S120)) (x7_3 : Int) (x8_3 : Int), v7 = .int .i64 x7_3 ∧ v8 = .int .i64 x8_3 ∧ Aside0 (api_Write_108.l2 kq x0_3 a1 93 x6_2 x7_3 x8_3 = some r) ∧ Aside0 (kq ≤ k2) ∧ Aside0 (Kd.R k120 120 w' w0.heap.size (fun k_ => (P0_ k_ ∨ w.heap.size ≤ k_)) (.slice Ao9 x0_2.length co9) x0_3) ∧ Aside0 (Kept w w' (fun k_ => P0_ k_)) ∧ Aside0 (Below w0.heap.size w0 w'))
       case atStart => exact ⟨(x0_2), (0), (wrap64 (2 * x6_2)), z4_, z4_, H', ⟨Nat.le_refl _⟩, ⟨by (try simp only [hl0_2]); (with_reducible repeat (first | apply Kd.R_alloc | apply Kd.R_drewN | apply Kd.R_drew)); exact HO_0.out⟩, ⟨z77_⟩, ⟨z3_⟩⟩
       case round =>
        clear H'
        obtain ⟨x0_3, x7_3, x8_3, rfl, rfl, HA, HK3, HO_0, HK, HB⟩ := hrel
        have hl0_3 := (Kd.R_reads' HO_0.out).1
        rw [hl0_3] at HO_0
        (try simp only [hl0_3])
        cases gk with
        | zero => exact absurd HA.out (by simp [api_Write_108.l2])
        | succ k3 =>
         have H := HA.out
         clear HA
         simp only [api_Write_108.l2] at H
         by_cases c12 : x8_3 ≤ a1
         ·rw [if_pos c12] at H
          have c12b0 : decide (x8_3 ≤ a1) = true := decide_eq_true c12
          clear c12
          (try (have c12b0x := c12b0; simp only [hl0_2, hl0_3] at c12b0x))
          replace H := Option.bind_eq_some_iff.mp H
          obtain ⟨t197, A130, H⟩ := H
          try dsimp only at H
          have A13 := a0_ A130
          clear A130
          have H' := a0_ H
          clear H
          go_wp2_with (first | ((with_reducible refine gate_callee (f := 116) rfl ?_); refine goesL_ (some 43) rfl rfl Try.func116 z6_ rfl #[.slice Ao9 x0_3.length co9, .int .i64 x7_3, .int .i64 (wrap64 (x7_3 + x6_2)), .int .i64 x8_3, .func (.func 93) #[] #[]] rfl z16_ ?_; (with_reducible refine (api_Write_116.calls k3 (fun k_ => some k_ = (.slice Ao9 x0_3.length co9 : Value).ownBlock) (.slice Ao9 x0_3.length co9) x0_3 x7_3 (wrap64 (x7_3 + x6_2)) x8_3 93 t197 w0 _ ?side1 ?side2 A13.out).mono ?_); (case side1 => exact z3_); (case side2 => exact z81_); rintro e w14 ⟨rfl, hy0, hb, hkp⟩; refine ⟨_, rfl, ?_⟩; have n0_ := a0_ (Kd.R_reok rfl hy0 (fun k_ e_ => HO_0.out.1 k_ e_)); have n1_ := a0_ (Kept.then_ (S := (fun k_ => P0_ k_)) z77_ hkp (fun k_ hs_ => (fun e_ => (HO_0.out.1 k_ e_.symm)) hs_)); have n2_ := a0_ (hb); clear HO_0; clear HK; clear HB; have HO_0 := n0_; have HK := n1_; have HB := n2_; clear n0_ n1_ n2_; (try clear hb); (try clear hkp); (try clear hy0)))
          (try simp only [← hl0_3])
          go_roundg k3
          case measure => have := HK1.out; have := HK2.out; have := HK3.out; omega
          case rel => exact ⟨(t197), (x8_3), (wrap64 (x8_3 + (wrap64 (2 * x6_2)))), z4_, z4_, H', ⟨z92_⟩, ⟨z93_⟩, ⟨z77_⟩, ⟨z3_⟩⟩
         ·rw [if_neg c12] at H
          have c12b0 : decide (x8_3 ≤ a1) = false := decide_eq_false c12
          clear c12
          (try (have c12b0x := c12b0; simp only [hl0_2, hl0_3] at c12b0x))
          by_cases c15 : (wrap64 (x7_3 + x6_2)) < a1
          ·rw [if_pos c15] at H
           have c15b0 : decide ((wrap64 (x7_3 + x6_2)) < a1) = true := decide_eq_true c15
           clear c15
           (try (have c15b0x := c15b0; simp only [hl0_2, hl0_3] at c15b0x))
           replace H := Option.bind_eq_some_iff.mp H
           obtain ⟨t198, A160, H⟩ := H
           try dsimp only at H
           have A16 := a0_ A160
           clear A160
           have H' := a0_ H
           clear H
           go_wp2_with (first | ((with_reducible refine gate_callee (f := 116) rfl ?_); refine goesL_ (some 60) rfl rfl Try.func116 z6_ rfl #[.slice Ao9 x0_3.length co9, .int .i64 x7_3, .int .i64 (wrap64 (x7_3 + x6_2)), .int .i64 a1, .func (.func 93) #[] #[]] rfl z16_ ?_; (with_reducible refine (api_Write_116.calls k3 (fun k_ => some k_ = (.slice Ao9 x0_3.length co9 : Value).ownBlock) (.slice Ao9 x0_3.length co9) x0_3 x7_3 (wrap64 (x7_3 + x6_2)) a1 93 t198 w0 _ ?side1 ?side2 A16.out).mono ?_); (case side1 => exact z3_); (case side2 => exact z81_); rintro e w17 ⟨rfl, hy0, hb, hkp⟩; refine ⟨_, rfl, ?_⟩; have n0_ := a0_ (Kd.R_reok rfl hy0 (fun k_ e_ => HO_0.out.1 k_ e_)); have n1_ := a0_ (Kept.then_ (S := (fun k_ => P0_ k_)) z77_ hkp (fun k_ hs_ => (fun e_ => (HO_0.out.1 k_ e_.symm)) hs_)); have n2_ := a0_ (hb); clear HO_0; clear HK; clear HB; have HO_0 := n0_; have HK := n1_; have HB := n2_; clear n0_ n1_ n2_; (try clear hb); (try clear hkp); (try clear hy0)))
           (try simp only [← hl0_2, ← hl0_3])
           go_roundg k3
           case measure => have := HK1.out; have := HK2.out; have := HK3.out; omega
           case rel => exact ⟨(t198), (wrap64 (x6_2 * 2)), z4_, H', ⟨z92_⟩, ⟨z93_⟩, ⟨z77_⟩, ⟨z3_⟩⟩
          ·rw [if_neg c15] at H
           have c15b0 : decide ((wrap64 (x7_3 + x6_2)) < a1) = false := decide_eq_false c15
           clear c15
           (try (have c15b0x := c15b0; simp only [hl0_2, hl0_3] at c15b0x))
           have H' := a0_ H
           clear H
           go_wp2
           (try simp only [← hl0_2, ← hl0_3])
           go_roundg k3
           case measure => have := HK1.out; have := HK2.out; have := HK3.out; omega
           case rel => exact ⟨(x0_3), (wrap64 (x6_2 * 2)), z4_, H', ⟨z92_⟩, ⟨z93_⟩, ⟨z77_⟩, ⟨z3_⟩⟩
      ·rw [if_neg c11] at H
       have c11b0 : decide (x6_2 < a1) = false := decide_eq_false c11
       clear c11
       (try (have c11b0x := c11b0; simp only [hl0_2] at c11b0x))
       obtain rfl := Option.some.inj H
       go_wp2
       first | go_end0 | ((try simp only [Exit.inBlock, Exit.then]); refine bodyPost_ret (results_none rfl _ _ _) rfl ?_)
       exact ⟨z2_, (by first | exact z78_ | (simp only [hl0_2]; exact z78_)), z3_, z77_⟩
def api_Write_92.f (k : Nat) (l0 : List (S120)) (a1 : Nat) : Option ((List (S120))) := (api_Write_108.f k l0 (l0.length : Int) a1).bind fun t199 => (some t199)
set_option maxHeartbeats 8000000 in
set_option maxRecDepth 100000 in
theorem api_Write_92.calls (k : Nat) (P0_ : Nat → Prop) (u9000_ : Value) (l0 : List (S120)) (a1 : Nat) (r : List (S120)) (w0 w : World) (hB : Below w0.heap.size w0 w) (ho0 : Kd.R k120 120 w w0.heap.size P0_ u9000_ l0) (h : api_Write_92.f k l0 a1 = some r) (h93 : a1 = 93 := by rfl) :
  Calls Try.prog 92 #[u9000_, .func (.func a1) #[] #[]] w fun e w' => e = .returned (.tuple #[]) ∧ Kd.R k120 120 w' w0.heap.size (fun k_ => (P0_ k_ ∨ w.heap.size ≤ k_)) u9000_ r ∧ Below w0.heap.size w0 w' ∧ Kept w w' (fun k_ => P0_ k_) := by
 subst h93
 have HO0 := a0_ (show Kd.R k120 120 w w0.heap.size (fun k_ => (P0_ k_ ∨ w.heap.size ≤ k_)) u9000_ l0 from Kd.R_mono ho0 (fun k_ hk => (.inl hk)))
 have HK := a0_ (Kept.refl w (fun k_ => P0_ k_))
 have HW0 := a0_ hB.size
 have HB := a0_ hB
 clear hB
 have H : ((api_Write_108.f k l0 (l0.length : Int) 93).bind fun t199 => (some t199)) = some r := h
 clear h
 replace H := Option.bind_eq_some_iff.mp H
 obtain ⟨t199, A30, H⟩ := H
 try dsimp only at H
 have A3 := a0_ A30
 clear A30
 obtain rfl := Option.some.inj H
 obtain ⟨Ao4, co4, eo4⟩ := Kd.R_slice HO0.out
 subst eo4
 go_enter Try.func92, Try.ntmps92
 go_wp2_with (first | ((with_reducible refine gate_callee (f := 108) rfl ?_); refine goesL_ (some 8) rfl rfl Try.func108 z6_ rfl #[.slice Ao4 l0.length co4, .int .i64 (l0.length : Int), .func (.func 93) #[] #[]] rfl z16_ ?_; (with_reducible refine (api_Write_108.calls k (fun k_ => some k_ = (.slice Ao4 l0.length co4 : Value).ownBlock) (.slice Ao4 l0.length co4) l0 (l0.length : Int) 93 t199 w0 _ ?side1 ?side2 A3.out).mono ?_); (case side1 => exact z3_); (case side2 => exact Kd.R_tight rfl HO0.out); rintro e w5 ⟨rfl, hy0, hb, hkp⟩; refine ⟨_, rfl, ?_⟩; have n0_ := a0_ (Kd.R_reok rfl hy0 (fun k_ e_ => HO0.out.1 k_ e_)); have n1_ := a0_ (Kept.then_ (S := (fun k_ => P0_ k_)) z77_ hkp (fun k_ hs_ => (fun e_ => (HO0.out.1 k_ e_.symm)) hs_)); have n2_ := a0_ (hb); clear HO0; clear HK; clear HB; have HO0 := n0_; have HK := n1_; have HB := n2_; clear n0_ n1_ n2_; (try clear hb); (try clear hkp); (try clear hy0)))
 first | go_end0 | ((try simp only [Exit.inBlock, Exit.then]); refine bodyPost_ret (results_none rfl _ _ _) rfl ?_)
 exact ⟨z2_, z76_, z3_, z77_⟩
end Go.Proofs.Ytecfndblgefhdaa.R
