import Derived.Test.YtecfndblgefhdaaKcPx3
import Derived.Test.YtecfndblgefhdaaKcPx7
namespace Go.Proofs.Ytecfndblgefhdaa.P
open Go.RowKit Go.Proofs.YtecfndblgefhdaaW.PrintWords Go.Proofs.YtecfndblgefhdaaW.PrintLast Go.Proofs.YtecfndblgefhdaaW.PrintMore
attribute [local go_sem] max2_int min2_int max_two min_two max_three min_three max_four min_four
set_option linter.unusedVariables false
set_option linter.unusedSimpArgs false
theorem qpx101_ {p : Prop} (h : p := by exact ⟨z3_, z6_⟩) : p := h
theorem qpx100_ {p : Prop} (h : p := by exact ⟨z3_, z81_⟩) : p := h
mutual
def seg_Cut.j0 : Nat → ByteArray → Int → Bool → Option (List ByteArray × Int)
 | 0, _, _, _ => none
 | k + 1, x0, x1, x18 => if x18 = true then (some (([] : List ByteArray), 1)) else (if x1 = 0 then (none) else (if (mx 1 (wrap64 (Int.tdiv (wrap64 ((wrap64 ((x0.size : Int) + x1)) - 1)) x1))) > 65535 then (some (([] : List ByteArray), 5)) else ((octet_Put.f k (mx 1 (wrap64 (Int.tdiv (wrap64 ((wrap64 ((x0.size : Int) + x1)) - 1)) x1))) 2).bind fun bt238 => (if 0 ≤ (mx 1 (wrap64 (Int.tdiv (wrap64 ((wrap64 ((x0.size : Int) + x1)) - 1)) x1))) then (if (mx 1 (wrap64 (Int.tdiv (wrap64 ((wrap64 ((x0.size : Int) + x1)) - 1)) x1)) : Int).toNat ≤ 17592186044416 then (seg_Cut.l0 k x0 x1 bt238.1 (List.replicate 0 (⟨#[]⟩ : ByteArray)) (mx 1 (wrap64 (Int.tdiv (wrap64 ((wrap64 ((x0.size : Int) + x1)) - 1)) x1))) 0) else (none)) else (none)))))
def seg_Cut.l0 : Nat → ByteArray → Int → ByteArray → List ByteArray → Int → Int → Option (List ByteArray × Int)
 | 0, _, _, _, _, _, _ => none
 | k + 1, x0, x1, x7, x9, x36, x37 => if x37 < x36 then ((octet_Put.f k x37 2).bind fun bt243 => (if bt243.1.size + x7.size ≤ 9223372036854775807 then (if 0 ≤ (wrap64 (x37 * x1)) then (if (wrap64 (x37 * x1)) ≤ (mn (x0.size : Int) (wrap64 ((wrap64 (x37 + 1)) * x1))) then (if (mn (x0.size : Int) (wrap64 ((wrap64 (x37 + 1)) * x1))) ≤ (x0.size : Int) then (if (bt243.1 ++ x7).size + (x0.extract ((wrap64 (x37 * x1)) : Int).toNat ((mn (x0.size : Int) (wrap64 ((wrap64 (x37 + 1)) * x1))) : Int).toNat).size ≤ 9223372036854775807 then (if x9.length < 8796093022208 then (seg_Cut.l0 k x0 x1 x7 (x9 ++ [(bt243.1 ++ x7) ++ (x0.extract ((wrap64 (x37 * x1)) : Int).toNat ((mn (x0.size : Int) (wrap64 ((wrap64 (x37 + 1)) * x1))) : Int).toNat)]) x36 (wrap64 (x37 + 1))) else (none)) else (none)) else (none)) else (none)) else (none)) else (none))) else (some (x9, 0))
end
def seg_Cut.f (k : Nat) (a0 : ByteArray) (a1 : Int) : Option (List ByteArray × Int) := if a1 < 1 then (seg_Cut.j0 k a0 a1 true) else (seg_Cut.j0 k a0 a1 (decide (a1 > 508)))
set_option maxHeartbeats 8000000 in
set_option maxRecDepth 100000 in
theorem seg_Cut.calls (k : Nat) (a0 : ByteArray) (a1 : Int) (r1 : List ByteArray) (r2 : Int) (w : World) (h : seg_Cut.f k a0 a1 = some (r1, r2)) :
  Calls Try.prog 42 #[.string a0, .int .i64 a1] w fun e w' => ∃ v0_ : Value, e = .returned (.tuple #[v0_, .int .i64 r2]) ∧ Kd.R Kd.string 9 w' w.heap.size (fun _ => True) v0_ r1 ∧ Below w.heap.size w w' := by
 have HB := a0_ (Below.refl w.heap.size w)
 have H : (if a1 < 1 then (seg_Cut.j0 k a0 a1 true) else (seg_Cut.j0 k a0 a1 (decide (a1 > 508)))) = some (r1, r2) := h
 clear h
 have HC3 := a0_ H
 clear H
 go_enter Try.func42, Try.ntmps42
 go_upto_region 1 with (fail)
 go_cut [18] (fun v18 wc => ∃ (kq : Nat) (x18_2 : Bool), v18 = .bool x18_2 ∧ Aside0 (seg_Cut.j0 kq a0 a1 x18_2 = some (r1, r2)) ∧ Aside0 (kq ≤ k) ∧ Aside0 (Below w.heap.size w wc))
 case first =>
  have H := HC3.out
  clear HC3
  by_cases c4 : a1 < 1
  ·rw [if_pos c4] at H
   have c4b0 : decide (a1 < 1) = true := decide_eq_true c4
   clear c4
   (first | rw [c4b0] | (simp only [i64_w, i32_w]; rw [c4b0]) | skip)
   have H' := a0_ H
   clear H
   go_wp2
   go_meet
   case rel => exact ⟨_, (true), z9_, H', ⟨z18_⟩, ⟨z6_⟩⟩
  ·rw [if_neg c4] at H
   have c4b0 : decide (a1 < 1) = false := decide_eq_false c4
   clear c4
   (first | rw [c4b0] | (simp only [i64_w, i32_w]; rw [c4b0]) | skip)
   have H' := a0_ H
   clear H
   go_wp2
   go_meet
   case rel => exact ⟨_, (decide (a1 > 508)), z9_, H', ⟨z18_⟩, ⟨z6_⟩⟩
 case rest =>
  clear HC3
  obtain ⟨kq, x18_2, rfl, HA, HJ2, HB⟩ := hcut
  cases kq with
  | zero => exact absurd HA.out (by simp [seg_Cut.j0])
  | succ kj2 =>
   have H := HA.out
   clear HA
   simp only [seg_Cut.j0] at H
   by_cases c5 : x18_2 = true
   ·subst c5
    rw [if_pos rfl] at H
    simp only [Option.some.injEq, Prod.mk.injEq] at H
    obtain ⟨rfl, rfl⟩ := H
    go_wp2
    go_ret2
    exact ⟨_, z3_, z15_, z6_⟩
   ·replace c5 := Bool.eq_false_iff.mpr c5
    subst c5
    rw [if_neg (show ¬ (false = true) from z17_)] at H
    by_cases c6 : a1 = 0
    ·rw [if_pos c6] at H
     exact absurd H (by simp)
    ·rw [if_neg c6] at H
     have c6b0 : (a1 == 0) = false := beq_eq_false_iff_ne.mpr c6
     have c6b1 : (a1 != 0) = true := bne_iff_ne.mpr c6
     obtain ⟨ji7, hji7⟩ : ∃ j_ : Int, (mx 1 (wrap64 (Int.tdiv (wrap64 ((wrap64 ((a0.size : Int) + a1)) - 1)) a1))) = j_ := ⟨_, rfl⟩
     replace H : (if (ji7) > 65535 then (some (([] : List ByteArray), 5)) else ((octet_Put.f kj2 (ji7) 2).bind fun bt238 => (if 0 ≤ (ji7) then (if (ji7 : Int).toNat ≤ 17592186044416 then (seg_Cut.l0 kj2 a0 a1 bt238.1 (List.replicate 0 (⟨#[]⟩ : ByteArray)) ji7 0) else (none)) else (none)))) = some (r1, r2) := by first | (rw [hji7] at H; exact H) | (simp only [hji7] at H ⊢; exact H)
     have hji7_ : (if 1 < (wrap64 (Int.tdiv (wrap64 ((wrap64 ((a0.size : Int) + a1)) - 1)) a1)) then (wrap64 (Int.tdiv (wrap64 ((wrap64 ((a0.size : Int) + a1)) - 1)) a1)) else 1) = ji7 := hji7
     by_cases c8 : (ji7) > 65535
     ·rw [if_pos c8] at H
      have c8b0 : decide (65535 < (ji7)) = true := decide_eq_true c8
      clear c8
      simp only [Option.some.injEq, Prod.mk.injEq] at H
      obtain ⟨rfl, rfl⟩ := H
      go_wp2
      go_ret2
      exact ⟨_, z82_, z15_, z6_⟩
     ·rw [if_neg c8] at H
      have c8b0 : decide (65535 < (ji7)) = false := decide_eq_false c8
      clear c8
      replace H := Option.bind_eq_some_iff.mp H
      obtain ⟨⟨t238, t239⟩, A90, H⟩ := H
      try dsimp only at H
      have A9 := a0_ A90
      clear A90
      by_cases c10 : 0 ≤ (ji7)
      ·rw [if_pos c10] at H
       have c10b0 := eq_true c10
       have c10b1 : decide (0 ≤ (ji7)) = true := decide_eq_true c10
       clear c10
       by_cases c11 : (ji7 : Int).toNat ≤ 17592186044416
       ·rw [if_pos c11] at H
        have c11b0 := eq_true c11
        have c11b1 : decide ((ji7 : Int).toNat ≤ 17592186044416) = true := decide_eq_true c11
        clear c11
        obtain ⟨y240, hy240⟩ : ∃ y_ : List ByteArray, y_ = (List.replicate 0 (⟨#[]⟩ : ByteArray)) := ⟨_, rfl⟩
        replace H : (seg_Cut.l0 kj2 a0 a1 t238 y240 ji7 0) = some (r1, r2) := by first | (rw [hy240]; with_reducible exact H) | (have H2_ := (Option.bind_some _ _).symm.trans H; rw [hy240]; with_reducible exact H2_) | (have H2_ := (Option.bind_some _ _).symm.trans H; with_reducible exact H2_) | with_reducible exact H | (rw [hy240]; exact H) | exact H
        have Ny240 := a0_ hy240
        clear hy240
        have H' := a0_ H
        clear H
        go_wp2_with (first | ((with_reducible refine gate_callee (f := 80) rfl ?_); refine goesL_ (some 31) rfl rfl Try.func80 z11_ rfl #[.int .i64 ji7, .int .i64 2] rfl (by (try simp only [List.map_toArray, List.map_cons, List.map_nil]); first | done | (simp only [hji7]; rfl) | rfl | (simp only [List.length_drop, List.length_take]; rfl)) ?_; (with_reducible refine (octet_Put.calls kj2 ji7 2 t238 t239 _ A9.out).mono ?_); rintro e w12 ⟨rfl, hb⟩; refine ⟨_, rfl, ?_⟩; replace HB := a0_ (below_step z6_ hb); (try clear hb); (try clear hb2); (try clear hk); (try clear hi)) | ((with_reducible refine gate_dst (N := 35) rfl ?_); refine Kd.R_make0 Kd.string _ 9 rfl (N := 35) rfl 24 _ _ rfl ji7 rfl rfl Try.underlying24 (.string ⟨#[]⟩) 16 info9 rfl z17_ z2_ (⟨#[]⟩ : ByteArray) (ok := fun _ => True) (okp := fun _ => True) rfl (fun _ hk => hk) trivial (of_decide_eq_true z19_) (Nat.le_trans (Nat.mul_le_mul_right _ (of_decide_eq_true z19_ : ji7.toNat ≤ 17592186044416)) z2_) (Below.refl _ _) (Nat.le_refl _) ?_; intro v241 w13 ho14 hb hg_ hnew_; clear hg_ hnew_; (first | rw [← Ny240.out] at ho14 | (simp only [Int.reduceToNat] at ho14; rw [← Ny240.out] at ho14)); have HO242 := a0_ (Kd.R_lower ho14 (below_size z6_)); replace HB := a0_ (below_step z6_ hb); clear hb ho14))
        go_loopg [9, 37] kj2 (fun kq v9 v37 w' => ∃ (x9_2 : List ByteArray) (x37_2 : Int), v37 = .int .i64 x37_2 ∧ Aside0 (seg_Cut.l0 kq a0 a1 t238 x9_2 ji7 x37_2 = some (r1, r2)) ∧ Aside0 (kq ≤ kj2) ∧ Aside0 (Kd.R Kd.string 9 w' w.heap.size (fun _ => True) v9 x9_2) ∧ Aside0 (Below w.heap.size w w'))
        case atStart => exact ⟨(y240), (0), z9_, H', ⟨Nat.le_refl _⟩, ⟨by (with_reducible repeat (first | apply Kd.R_alloc | apply Kd.R_drewN | apply Kd.R_drew)); exact HO242.out⟩, ⟨z6_⟩⟩
        case round =>
         clear H'
         obtain ⟨x9_2, x37_2, rfl, HA, HK2, HO_9, HB⟩ := hrel
         cases gk with
         | zero => exact absurd HA.out (by simp [seg_Cut.l0])
         | succ k2 =>
          have H := HA.out
          clear HA
          simp only [seg_Cut.l0] at H
          by_cases c15 : x37_2 < ji7
          ·rw [if_pos c15] at H
           have c15b0 : decide (x37_2 < ji7) = true := decide_eq_true c15
           clear c15
           replace H := Option.bind_eq_some_iff.mp H
           obtain ⟨⟨t243, t244⟩, A160, H⟩ := H
           try dsimp only at H
           have A16 := a0_ A160
           clear A160
           by_cases c17 : t243.size + t238.size ≤ 9223372036854775807
           ·rw [if_pos c17] at H
            have c17b0 := eq_true c17
            have c17b1 : decide (t243.size + t238.size ≤ 9223372036854775807) = true := decide_eq_true c17
            try have c17b2 : (9223372036854775807 < t243.size + t238.size) = False := eq_false (Nat.not_lt.2 c17)
            obtain ⟨ji18, hji18⟩ : ∃ j_ : Int, (mn (a0.size : Int) (wrap64 ((wrap64 (x37_2 + 1)) * a1))) = j_ := ⟨_, rfl⟩
            replace H : (if 0 ≤ (wrap64 (x37_2 * a1)) then (if (wrap64 (x37_2 * a1)) ≤ (ji18) then (if (ji18) ≤ (a0.size : Int) then (if (t243 ++ t238).size + (a0.extract ((wrap64 (x37_2 * a1)) : Int).toNat ((ji18) : Int).toNat).size ≤ 9223372036854775807 then (if x9_2.length < 8796093022208 then (seg_Cut.l0 k2 a0 a1 t238 (x9_2 ++ [(t243 ++ t238) ++ (a0.extract ((wrap64 (x37_2 * a1)) : Int).toNat ((ji18) : Int).toNat)]) ji7 (wrap64 (x37_2 + 1))) else (none)) else (none)) else (none)) else (none)) else (none)) = some (r1, r2) := by first | (rw [hji18] at H; exact H) | (simp only [hji18] at H ⊢; exact H)
            (try rw [hji18] at A16)
            have hji18_ : (if (wrap64 ((wrap64 (x37_2 + 1)) * a1)) < (a0.size : Int) then (wrap64 ((wrap64 (x37_2 + 1)) * a1)) else (a0.size : Int)) = ji18 := hji18
            obtain ⟨ji19, hji19⟩ : ∃ j_ : Int, (wrap64 (x37_2 * a1)) = j_ := ⟨_, rfl⟩
            replace H : (if 0 ≤ (ji19) then (if (ji19) ≤ (ji18) then (if (ji18) ≤ (a0.size : Int) then (if (t243 ++ t238).size + (a0.extract ((ji19) : Int).toNat ((ji18) : Int).toNat).size ≤ 9223372036854775807 then (if x9_2.length < 8796093022208 then (seg_Cut.l0 k2 a0 a1 t238 (x9_2 ++ [(t243 ++ t238) ++ (a0.extract ((ji19) : Int).toNat ((ji18) : Int).toNat)]) ji7 (wrap64 (x37_2 + 1))) else (none)) else (none)) else (none)) else (none)) else (none)) = some (r1, r2) := by first | (rw [hji19] at H; exact H) | (simp only [hji19] at H ⊢; exact H)
            (try rw [hji19] at A16)
            have hji19w : (IntKind.i64.wrap (x37_2 * a1)) = ji19 := (i64_w _).trans hji19
            by_cases c20 : 0 ≤ (ji19)
            ·rw [if_pos c20] at H
             have c20b0 := eq_true c20
             have c20b1 : decide (0 ≤ (ji19)) = true := decide_eq_true c20
             clear c20
             by_cases c21 : (ji19) ≤ (ji18)
             ·rw [if_pos c21] at H
              have c21b0 := eq_true c21
              have c21b1 : decide ((ji19) ≤ (ji18)) = true := decide_eq_true c21
              clear c21
              by_cases c22 : (ji18) ≤ (a0.size : Int)
              ·rw [if_pos c22] at H
               have c22b0 := eq_true c22
               have c22b1 : decide ((ji18) ≤ (a0.size : Int)) = true := decide_eq_true c22
               clear c22
               by_cases c23 : (t243 ++ t238).size + (a0.extract ((ji19) : Int).toNat ((ji18) : Int).toNat).size ≤ 9223372036854775807
               ·rw [if_pos c23] at H
                have c23b0 := eq_true c23
                have c23b1 : decide ((t243 ++ t238).size + (a0.extract ((ji19) : Int).toNat ((ji18) : Int).toNat).size ≤ 9223372036854775807) = true := decide_eq_true c23
                try have c23b2 : (9223372036854775807 < (t243 ++ t238).size + (a0.extract ((ji19) : Int).toNat ((ji18) : Int).toNat).size) = False := eq_false (Nat.not_lt.2 c23)
                (try (have c23b2x := c23b2; simp only [ByteArray.size_append] at c23b2x))
                by_cases c24 : x9_2.length < 8796093022208
                ·rw [if_pos c24] at H
                 have LMc24 := a0_ c24
                 clear c24
                 obtain ⟨y245, hy245⟩ : ∃ y_ : List ByteArray, y_ = (x9_2 ++ [(t243 ++ t238) ++ (a0.extract ((ji19) : Int).toNat ((ji18) : Int).toNat)]) := ⟨_, rfl⟩
                 replace H : (seg_Cut.l0 k2 a0 a1 t238 y245 ji7 (wrap64 (x37_2 + 1))) = some (r1, r2) := by first | (rw [hy245]; with_reducible exact H) | (have H2_ := (Option.bind_some _ _).symm.trans H; rw [hy245]; with_reducible exact H2_) | (have H2_ := (Option.bind_some _ _).symm.trans H; with_reducible exact H2_) | with_reducible exact H | (rw [hy245]; exact H) | exact H
                 have Ny245 := a0_ hy245
                 clear hy245
                 have H' := a0_ H
                 clear H
                 go_wp2_with (first | ((with_reducible refine gate_callee (f := 80) rfl ?_); refine goesL_ (some 42) rfl rfl Try.func80 z11_ rfl #[.int .i64 x37_2, .int .i64 2] rfl z12_ ?_; (with_reducible refine (octet_Put.calls k2 x37_2 2 t243 t244 _ A16.out).mono ?_); rintro e w25 ⟨rfl, hb⟩; refine ⟨_, rfl, ?_⟩; replace HO_9 := a0_ (Kd.R_below z83_ hb); replace HB := a0_ (below_step z6_ hb); (try clear hb); (try clear hb2); (try clear hk); (try clear hi)) | ((with_reducible refine gate_builtin (b := .append) (xs := #[.tmp 45, .tmp 62]) rfl ?_); at_builtin; refine Kd.R_append Kd.string (w0 := w) w.heap.size rfl (.tmp 45) (.tmp 62) 24 9 (.string ⟨#[]⟩) 16 rfl Try.underlying24 info9 rfl z17_ z2_ u9 x9_2 ((t243 ++ t238) ++ (a0.extract ((ji19) : Int).toNat ((ji18) : Int).toNat)) [.string ((t243 ++ t238) ++ (a0.extract ((ji19) : Int).toNat ((ji18) : Int).toNat))] (fun _ => True) (fun _ => False) rfl rfl ?aP (fun _ hk => hk.elim) ?aF ?aO ?aB ?aS ?aL ?_; (case aP => exact z72_); (case aB => exact z42_); (case aF => exact z43_); (case aO => exact z83_); (case aS => exact z44_); (case aL => have := LMc24.out; omega); intro v246 w26 ho hb hg hat; rw [← Ny245.out] at ho; have n0_ := a0_ (hb); have n1_ := a0_ (ho); clear HB; clear HO_9; have HB := n0_; have HO247 := n1_; clear n0_ n1_; clear ho hb hg hat))
                 go_roundg k2
                 case measure => have := HJ2.out; have := HK2.out; omega
                 case rel => exact ⟨(y245), (wrap64 (x37_2 + 1)), z9_, H', ⟨z56_⟩, ⟨by (with_reducible repeat (first | apply Kd.R_alloc | apply Kd.R_drewN | apply Kd.R_drew)); exact HO247.out⟩, ⟨z6_⟩⟩
                ·rw [if_neg c24] at H
                 exact absurd H (by simp)
               ·rw [if_neg c23] at H
                exact absurd H (by simp)
              ·rw [if_neg c22] at H
               exact absurd H (by simp)
             ·rw [if_neg c21] at H
              exact absurd H (by simp)
            ·rw [if_neg c20] at H
             exact absurd H (by simp)
           ·rw [if_neg c17] at H
            exact absurd H (by simp)
          ·rw [if_neg c15] at H
           have c15b0 : decide (x37_2 < ji7) = false := decide_eq_false c15
           clear c15
           simp only [Option.some.injEq, Prod.mk.injEq] at H
           obtain ⟨rfl, rfl⟩ := H
           go_wp2
           go_ret2
           exact ⟨_, z82_, z83_, z6_⟩
       ·rw [if_neg c11] at H
        exact absurd H (by simp)
      ·rw [if_neg c10] at H
       exact absurd H (by simp)
def link_Right.f (a0_0 : Int) (a0_1 : Int) (a0_2 : Int) (l0_3 : List ByteArray) (a0_4 : Int) : Option (Bool) := (link_number.f a0_0 1).bind fun t249 => (if t249 = true then ((link_number.f a0_1 0).bind fun t250 => (if t250 = true then ((link_number.f a0_2 1).bind fun t251 => (if t251 = true then ((link_number.f a0_4 1).bind fun t252 => (if t252 = true then (if (l0_3.length : Int) ≤ 64 then ((slices_ContainsFunc_string_string.f l0_3 97).bind fun t253 => (some (!t253))) else (some false)) else (some false))) else (some false))) else (some false))) else (some false))
set_option maxHeartbeats 8000000 in
set_option maxRecDepth 100000 in
theorem link_Right.calls (a0_0 : Int) (a0_1 : Int) (a0_2 : Int) (A0_3 : Option Addr) (c0_3 : Nat) (l0_3 : List ByteArray) (a0_4 : Int) (r : Bool) (w : World) (hr0_3 : Kd.C Kd.string w A0_3 l0_3.length l0_3) (hc0_3 : l0_3.length ≤ c0_3) (h : link_Right.f a0_0 a0_1 a0_2 l0_3 a0_4 = some r) :
  Calls Try.prog 66 #[.agg #[.int .i64 a0_0, .int .i64 a0_1, .int .i64 a0_2, .slice A0_3 l0_3.length c0_3, .int .i64 a0_4]] w fun e w' => e = .returned (.bool r) ∧ Below w.heap.size w w' := by
 have hu26 := Try.underlying26
 have HR0_3 := a0_ hr0_3
 have HC0_3 := a0_ hc0_3
 clear hr0_3 hc0_3
 have HB := a0_ (Below.refl w.heap.size w)
 have H : ((link_number.f a0_0 1).bind fun t249 => (if t249 = true then ((link_number.f a0_1 0).bind fun t250 => (if t250 = true then ((link_number.f a0_2 1).bind fun t251 => (if t251 = true then ((link_number.f a0_4 1).bind fun t252 => (if t252 = true then (if (l0_3.length : Int) ≤ 64 then ((slices_ContainsFunc_string_string.f l0_3 97).bind fun t253 => (some (!t253))) else (some false)) else (some false))) else (some false))) else (some false))) else (some false))) = some r := h
 clear h
 replace H := Option.bind_eq_some_iff.mp H
 obtain ⟨t249, A20, H⟩ := H
 try dsimp only at H
 have A2 := a0_ A20
 clear A20
 by_cases c3 : t249 = true
 ·subst c3
  rw [if_pos rfl] at H
  replace H := Option.bind_eq_some_iff.mp H
  obtain ⟨t250, A40, H⟩ := H
  try dsimp only at H
  have A4 := a0_ A40
  clear A40
  by_cases c5 : t250 = true
  ·subst c5
   rw [if_pos rfl] at H
   replace H := Option.bind_eq_some_iff.mp H
   obtain ⟨t251, A60, H⟩ := H
   try dsimp only at H
   have A6 := a0_ A60
   clear A60
   by_cases c7 : t251 = true
   ·subst c7
    rw [if_pos rfl] at H
    replace H := Option.bind_eq_some_iff.mp H
    obtain ⟨t252, A80, H⟩ := H
    try dsimp only at H
    have A8 := a0_ A80
    clear A80
    by_cases c9 : t252 = true
    ·subst c9
     rw [if_pos rfl] at H
     by_cases c10 : (l0_3.length : Int) ≤ 64
     ·rw [if_pos c10] at H
      have c10b0 : decide ((l0_3.length : Int) ≤ 64) = true := decide_eq_true c10
      have c10b1 : decide (l0_3.length ≤ 64) = true := decide_eq_true z2_
      clear c10
      replace H := Option.bind_eq_some_iff.mp H
      obtain ⟨t253, A110, H⟩ := H
      try dsimp only at H
      have A11 := a0_ A110
      clear A110
      obtain rfl := Option.some.inj H
      go_enter Try.func66, Try.ntmps66
      go_wp2_with (first | ((with_reducible refine gate_dst (N := 1) rfl ?_); (try (refine gate_guard (by rfl) ?_; dsimp only)); refine box_event ?hg (N := 1) ?hd (cs := #[.int .i64 a0_0, .int .i64 a0_1, .int .i64 a0_2, .slice A0_3 l0_3.length c0_3, .int .i64 a0_4]) (t := 26) ?hr ?_; (case hd => rfl); (case hg => rfl); (case hr => exact z7_); intro gb248 hg w12 hbox hb; have n0_ := a0_ (below_step z6_ hb); have n1_ := a0_ (hbox); have n2_ := a0_ ((z8_ : w.heap.size ≤ gb248)); have n3_ := a0_ ((z8_ : w.heap.size ≤ gb248)); clear HB; have HB := n0_; have BK248 := n1_; have GW248 := n2_; have GE248 := n3_; clear n0_ n1_ n2_ n3_; clear hb hbox hg; obtain ⟨hcz13_0, hcz13_1, hcz13_2, hcz13_3, hcz13_4⟩ := bc5_ BK248.out; obtain ⟨hfz13_0, hfz13_1, hfz13_2, hfz13_3, hfz13_4⟩ := bf5_ BK248.out) | ((with_reducible refine gate_callee (f := 28) rfl ?_); refine goesL_ (some 5) rfl rfl Try.func28 z11_ rfl #[.int .i64 a0_0, .int .i64 1] rfl z12_ ?_; (with_reducible refine (link_number.calls a0_0 1 true _ A2.out).mono ?_); rintro e w' ⟨rfl, ⟨nd, rfl⟩⟩; refine ⟨_, rfl, ?_⟩) | (go_at_call 28; (with_reducible refine (link_number.calls a0_1 0 true _ A4.out).mono ?_); rintro e w' ⟨rfl, ⟨nd, rfl⟩⟩) | (go_at_call 28; (with_reducible refine (link_number.calls a0_2 1 true _ A6.out).mono ?_); rintro e w' ⟨rfl, ⟨nd, rfl⟩⟩) | (go_at_call 28; (with_reducible refine (link_number.calls a0_4 1 true _ A8.out).mono ?_); rintro e w' ⟨rfl, ⟨nd, rfl⟩⟩) | (go_at_call 83; (with_reducible refine (slices_ContainsFunc_string_string.calls _ _ l0_3 97 t253 _ ?side1 ?side2 A11.out).mono ?_); (case side1 => repeat (first | exact (Kd.C_below HR0_3.out z81_) | (with_reducible refine Kd.C_alloc ?_ _) | (with_reducible refine Kd.C_drewN ?_ _) | (with_reducible refine Kd.C_drew ?_))); (case side2 => exact z84_); rintro e w14 ⟨rfl, hb⟩; replace BK248 := a0_ (blk_below (by (with_reducible repeat (first | refine blk_drewN ?_ _ | refine blk_drew ?_ | refine blk_alloc ?_ _)); exact BK248.out) hb); replace HB := a0_ (below_step z81_ hb); (try clear hb); (try clear hb2); (try clear hk); (try clear hi)))
      go_ret
      exact qpx100_
     ·rw [if_neg c10] at H
      have c10b0 : decide ((l0_3.length : Int) ≤ 64) = false := decide_eq_false c10
      have c10b1 : decide (l0_3.length ≤ 64) = false := decide_eq_false z2_
      clear c10
      obtain rfl := Option.some.inj H
      go_enter Try.func66, Try.ntmps66
      go_wp2_with (first | ((with_reducible refine gate_dst (N := 1) rfl ?_); (try (refine gate_guard (by rfl) ?_; dsimp only)); refine box_event ?hg (N := 1) ?hd (cs := #[.int .i64 a0_0, .int .i64 a0_1, .int .i64 a0_2, .slice A0_3 l0_3.length c0_3, .int .i64 a0_4]) (t := 26) ?hr ?_; (case hd => rfl); (case hg => rfl); (case hr => exact z7_); intro gb248 hg w15 hbox hb; have n0_ := a0_ (below_step z6_ hb); have n1_ := a0_ (hbox); have n2_ := a0_ ((z8_ : w.heap.size ≤ gb248)); have n3_ := a0_ ((z8_ : w.heap.size ≤ gb248)); clear HB; have HB := n0_; have BK248 := n1_; have GW248 := n2_; have GE248 := n3_; clear n0_ n1_ n2_ n3_; clear hb hbox hg; obtain ⟨hcz16_0, hcz16_1, hcz16_2, hcz16_3, hcz16_4⟩ := bc5_ BK248.out; obtain ⟨hfz16_0, hfz16_1, hfz16_2, hfz16_3, hfz16_4⟩ := bf5_ BK248.out) | ((with_reducible refine gate_callee (f := 28) rfl ?_); refine goesL_ (some 5) rfl rfl Try.func28 z11_ rfl #[.int .i64 a0_0, .int .i64 1] rfl z12_ ?_; (with_reducible refine (link_number.calls a0_0 1 true _ A2.out).mono ?_); rintro e w' ⟨rfl, ⟨nd, rfl⟩⟩; refine ⟨_, rfl, ?_⟩) | (go_at_call 28; (with_reducible refine (link_number.calls a0_1 0 true _ A4.out).mono ?_); rintro e w' ⟨rfl, ⟨nd, rfl⟩⟩) | (go_at_call 28; (with_reducible refine (link_number.calls a0_2 1 true _ A6.out).mono ?_); rintro e w' ⟨rfl, ⟨nd, rfl⟩⟩) | (go_at_call 28; (with_reducible refine (link_number.calls a0_4 1 true _ A8.out).mono ?_); rintro e w' ⟨rfl, ⟨nd, rfl⟩⟩))
      go_ret
      exact qpx100_
    ·replace c9 := Bool.eq_false_iff.mpr c9
     subst c9
     rw [if_neg (show ¬ (false = true) from z17_)] at H
     obtain rfl := Option.some.inj H
     go_enter Try.func66, Try.ntmps66
     go_wp2_with (first | ((with_reducible refine gate_dst (N := 1) rfl ?_); (try (refine gate_guard (by rfl) ?_; dsimp only)); refine box_event ?hg (N := 1) ?hd (cs := #[.int .i64 a0_0, .int .i64 a0_1, .int .i64 a0_2, .slice A0_3 l0_3.length c0_3, .int .i64 a0_4]) (t := 26) ?hr ?_; (case hd => rfl); (case hg => rfl); (case hr => exact z7_); intro gb248 hg w17 hbox hb; have n0_ := a0_ (below_step z6_ hb); have n1_ := a0_ (hbox); have n2_ := a0_ ((z8_ : w.heap.size ≤ gb248)); have n3_ := a0_ ((z8_ : w.heap.size ≤ gb248)); clear HB; have HB := n0_; have BK248 := n1_; have GW248 := n2_; have GE248 := n3_; clear n0_ n1_ n2_ n3_; clear hb hbox hg; obtain ⟨hcz18_0, hcz18_1, hcz18_2, hcz18_3, hcz18_4⟩ := bc5_ BK248.out; obtain ⟨hfz18_0, hfz18_1, hfz18_2, hfz18_3, hfz18_4⟩ := bf5_ BK248.out) | ((with_reducible refine gate_callee (f := 28) rfl ?_); refine goesL_ (some 5) rfl rfl Try.func28 z11_ rfl #[.int .i64 a0_0, .int .i64 1] rfl z12_ ?_; (with_reducible refine (link_number.calls a0_0 1 true _ A2.out).mono ?_); rintro e w' ⟨rfl, ⟨nd, rfl⟩⟩; refine ⟨_, rfl, ?_⟩) | (go_at_call 28; (with_reducible refine (link_number.calls a0_1 0 true _ A4.out).mono ?_); rintro e w' ⟨rfl, ⟨nd, rfl⟩⟩) | (go_at_call 28; (with_reducible refine (link_number.calls a0_2 1 true _ A6.out).mono ?_); rintro e w' ⟨rfl, ⟨nd, rfl⟩⟩) | (go_at_call 28; (with_reducible refine (link_number.calls a0_4 1 false _ A8.out).mono ?_); rintro e w' ⟨rfl, ⟨nd, rfl⟩⟩))
     go_ret
     exact qpx100_
   ·replace c7 := Bool.eq_false_iff.mpr c7
    subst c7
    rw [if_neg (show ¬ (false = true) from z17_)] at H
    obtain rfl := Option.some.inj H
    go_enter Try.func66, Try.ntmps66
    go_wp2_with (first | ((with_reducible refine gate_dst (N := 1) rfl ?_); (try (refine gate_guard (by rfl) ?_; dsimp only)); refine box_event ?hg (N := 1) ?hd (cs := #[.int .i64 a0_0, .int .i64 a0_1, .int .i64 a0_2, .slice A0_3 l0_3.length c0_3, .int .i64 a0_4]) (t := 26) ?hr ?_; (case hd => rfl); (case hg => rfl); (case hr => exact z7_); intro gb248 hg w19 hbox hb; have n0_ := a0_ (below_step z6_ hb); have n1_ := a0_ (hbox); have n2_ := a0_ ((z8_ : w.heap.size ≤ gb248)); have n3_ := a0_ ((z8_ : w.heap.size ≤ gb248)); clear HB; have HB := n0_; have BK248 := n1_; have GW248 := n2_; have GE248 := n3_; clear n0_ n1_ n2_ n3_; clear hb hbox hg; obtain ⟨hcz20_0, hcz20_1, hcz20_2, hcz20_3, hcz20_4⟩ := bc5_ BK248.out; obtain ⟨hfz20_0, hfz20_1, hfz20_2, hfz20_3, hfz20_4⟩ := bf5_ BK248.out) | ((with_reducible refine gate_callee (f := 28) rfl ?_); refine goesL_ (some 5) rfl rfl Try.func28 z11_ rfl #[.int .i64 a0_0, .int .i64 1] rfl z12_ ?_; (with_reducible refine (link_number.calls a0_0 1 true _ A2.out).mono ?_); rintro e w' ⟨rfl, ⟨nd, rfl⟩⟩; refine ⟨_, rfl, ?_⟩) | (go_at_call 28; (with_reducible refine (link_number.calls a0_1 0 true _ A4.out).mono ?_); rintro e w' ⟨rfl, ⟨nd, rfl⟩⟩) | (go_at_call 28; (with_reducible refine (link_number.calls a0_2 1 false _ A6.out).mono ?_); rintro e w' ⟨rfl, ⟨nd, rfl⟩⟩))
    go_ret
    exact qpx100_
  ·replace c5 := Bool.eq_false_iff.mpr c5
   subst c5
   rw [if_neg (show ¬ (false = true) from z17_)] at H
   obtain rfl := Option.some.inj H
   go_enter Try.func66, Try.ntmps66
   go_wp2_with (first | ((with_reducible refine gate_dst (N := 1) rfl ?_); (try (refine gate_guard (by rfl) ?_; dsimp only)); refine box_event ?hg (N := 1) ?hd (cs := #[.int .i64 a0_0, .int .i64 a0_1, .int .i64 a0_2, .slice A0_3 l0_3.length c0_3, .int .i64 a0_4]) (t := 26) ?hr ?_; (case hd => rfl); (case hg => rfl); (case hr => exact z7_); intro gb248 hg w21 hbox hb; have n0_ := a0_ (below_step z6_ hb); have n1_ := a0_ (hbox); have n2_ := a0_ ((z8_ : w.heap.size ≤ gb248)); have n3_ := a0_ ((z8_ : w.heap.size ≤ gb248)); clear HB; have HB := n0_; have BK248 := n1_; have GW248 := n2_; have GE248 := n3_; clear n0_ n1_ n2_ n3_; clear hb hbox hg; obtain ⟨hcz22_0, hcz22_1, hcz22_2, hcz22_3, hcz22_4⟩ := bc5_ BK248.out; obtain ⟨hfz22_0, hfz22_1, hfz22_2, hfz22_3, hfz22_4⟩ := bf5_ BK248.out) | ((with_reducible refine gate_callee (f := 28) rfl ?_); refine goesL_ (some 5) rfl rfl Try.func28 z11_ rfl #[.int .i64 a0_0, .int .i64 1] rfl z12_ ?_; (with_reducible refine (link_number.calls a0_0 1 true _ A2.out).mono ?_); rintro e w' ⟨rfl, ⟨nd, rfl⟩⟩; refine ⟨_, rfl, ?_⟩) | (go_at_call 28; (with_reducible refine (link_number.calls a0_1 0 false _ A4.out).mono ?_); rintro e w' ⟨rfl, ⟨nd, rfl⟩⟩))
   go_ret
   exact qpx100_
 ·replace c3 := Bool.eq_false_iff.mpr c3
  subst c3
  rw [if_neg (show ¬ (false = true) from z17_)] at H
  obtain rfl := Option.some.inj H
  go_enter Try.func66, Try.ntmps66
  go_wp2_with (first | ((with_reducible refine gate_dst (N := 1) rfl ?_); (try (refine gate_guard (by rfl) ?_; dsimp only)); refine box_event ?hg (N := 1) ?hd (cs := #[.int .i64 a0_0, .int .i64 a0_1, .int .i64 a0_2, .slice A0_3 l0_3.length c0_3, .int .i64 a0_4]) (t := 26) ?hr ?_; (case hd => rfl); (case hg => rfl); (case hr => exact z7_); intro gb248 hg w23 hbox hb; have n0_ := a0_ (below_step z6_ hb); have n1_ := a0_ (hbox); have n2_ := a0_ ((z8_ : w.heap.size ≤ gb248)); have n3_ := a0_ ((z8_ : w.heap.size ≤ gb248)); clear HB; have HB := n0_; have BK248 := n1_; have GW248 := n2_; have GE248 := n3_; clear n0_ n1_ n2_ n3_; clear hb hbox hg; obtain ⟨hcz24_0, hcz24_1, hcz24_2, hcz24_3, hcz24_4⟩ := bc5_ BK248.out; obtain ⟨hfz24_0, hfz24_1, hfz24_2, hfz24_3, hfz24_4⟩ := bf5_ BK248.out) | ((with_reducible refine gate_callee (f := 28) rfl ?_); refine goesL_ (some 5) rfl rfl Try.func28 z11_ rfl #[.int .i64 a0_0, .int .i64 1] rfl z12_ ?_; (with_reducible refine (link_number.calls a0_0 1 false _ A2.out).mono ?_); rintro e w' ⟨rfl, ⟨nd, rfl⟩⟩; refine ⟨_, rfl, ?_⟩))
  go_ret
  exact qpx100_
def sum_Of.f (a0 : ByteArray) : Option (Int) := (sum_On.f 0 a0).bind fun t254 => (some t254)
set_option maxHeartbeats 8000000 in
set_option maxRecDepth 100000 in
theorem sum_Of.calls (a0 : ByteArray) (r : Int) (w : World) (h : sum_Of.f a0 = some r) :
  Calls Try.prog 112 #[.string a0] w fun e w' => e = .returned (.int .u32 r) ∧ Below w.heap.size w w' := by
 have HB := a0_ (Below.refl w.heap.size w)
 have H : ((sum_On.f 0 a0).bind fun t254 => (some t254)) = some r := h
 clear h
 replace H := Option.bind_eq_some_iff.mp H
 obtain ⟨t254, A20, H⟩ := H
 try dsimp only at H
 have A2 := a0_ A20
 clear A20
 obtain rfl := Option.some.inj H
 go_enter Try.func112, Try.ntmps112
 go_wp2_with (first | ((with_reducible refine gate_callee (f := 118) rfl ?_); refine goesL_ (some 4) rfl rfl Try.func118 z11_ rfl #[.int .u32 0, .string a0] rfl z12_ ?_; (with_reducible refine (sum_On.calls 0 a0 t254 _ A2.out).mono ?_); rintro e w3 ⟨rfl, hb⟩; refine ⟨_, rfl, ?_⟩; replace HB := a0_ (below_step z6_ hb); (try clear hb); (try clear hb2); (try clear hk); (try clear hi)))
 go_ret
 exact qpx101_
def frame_Seal.j0 : Nat → Int → ByteArray → Bool → Option (ByteArray × Int)
 | 0, _, _, _ => none
 | k + 1, x0, x1, x11 => if x11 = true then (some ((⟨#[]⟩ : ByteArray), 1)) else (if (x1.size : Int) > 4096 then (some ((⟨#[]⟩ : ByteArray), 5)) else ((octet_Put.f k (x1.size : Int) 2).bind fun bt255 => ((some (([(x0) % 256] : List Int) : List Int)).bind fun y257 => (if (strOfNums y257).size + bt255.1.size ≤ 9223372036854775807 then (if ((strOfNums y257) ++ bt255.1).size + x1.size ≤ 9223372036854775807 then ((sum_Of.f (((strOfNums y257) ++ bt255.1) ++ x1)).bind fun t260 => ((octet_Put.f k (wrap64 (t260)) 4).bind fun bt261 => (if (((strOfNums y257) ++ bt255.1) ++ x1).size + bt261.1.size ≤ 9223372036854775807 then (some ((((strOfNums y257) ++ bt255.1) ++ x1) ++ bt261.1, 0)) else (none)))) else (none)) else (none)))))
def frame_Seal.f (k : Nat) (a0 : Int) (a1 : ByteArray) : Option (ByteArray × Int) := if a0 < 0 then (frame_Seal.j0 k a0 a1 true) else (frame_Seal.j0 k a0 a1 (decide (a0 > 255)))
set_option maxHeartbeats 8000000 in
set_option maxRecDepth 100000 in
theorem frame_Seal.calls (k : Nat) (a0 : Int) (a1 : ByteArray) (r1 : ByteArray) (r2 : Int) (w : World) (h : frame_Seal.f k a0 a1 = some (r1, r2)) :
  Calls Try.prog 98 #[.int .i64 a0, .string a1] w fun e w' => e = .returned (.tuple #[.string r1, .int .i64 r2]) ∧ Below w.heap.size w w' := by
 have HB := a0_ (Below.refl w.heap.size w)
 have H : (if a0 < 0 then (frame_Seal.j0 k a0 a1 true) else (frame_Seal.j0 k a0 a1 (decide (a0 > 255)))) = some (r1, r2) := h
 clear h
 have HC3 := a0_ H
 clear H
 go_enter Try.func98, Try.ntmps98
 go_upto_region 1 with (fail)
 go_cut [11] (fun v11 wc => ∃ (kq : Nat) (x11_2 : Bool), v11 = .bool x11_2 ∧ Aside0 (frame_Seal.j0 kq a0 a1 x11_2 = some (r1, r2)) ∧ Aside0 (kq ≤ k) ∧ Aside0 (Below w.heap.size w wc))
 case first =>
  have H := HC3.out
  clear HC3
  by_cases c4 : a0 < 0
  ·rw [if_pos c4] at H
   have c4b0 : decide (a0 < 0) = true := decide_eq_true c4
   clear c4
   (first | rw [c4b0] | (simp only [i64_w, i32_w]; rw [c4b0]) | skip)
   have H' := a0_ H
   clear H
   go_wp2
   go_meet
   case rel => exact ⟨_, (true), z9_, H', ⟨z18_⟩, ⟨z6_⟩⟩
  ·rw [if_neg c4] at H
   have c4b0 : decide (a0 < 0) = false := decide_eq_false c4
   clear c4
   (first | rw [c4b0] | (simp only [i64_w, i32_w]; rw [c4b0]) | skip)
   have H' := a0_ H
   clear H
   go_wp2
   go_meet
   case rel => exact ⟨_, (decide (a0 > 255)), z9_, H', ⟨z18_⟩, ⟨z6_⟩⟩
 case rest =>
  clear HC3
  obtain ⟨kq, x11_2, rfl, HA, HJ2, HB⟩ := hcut
  cases kq with
  | zero => exact absurd HA.out (by simp [frame_Seal.j0])
  | succ kj2 =>
   have H := HA.out
   clear HA
   simp only [frame_Seal.j0] at H
   by_cases c5 : x11_2 = true
   ·subst c5
    rw [if_pos rfl] at H
    simp only [Option.some.injEq, Prod.mk.injEq] at H
    obtain ⟨rfl, rfl⟩ := H
    go_wp2
    go_ret2
    exact qpx101_
   ·replace c5 := Bool.eq_false_iff.mpr c5
    subst c5
    rw [if_neg (show ¬ (false = true) from z17_)] at H
    by_cases c6 : (a1.size : Int) > 4096
    ·rw [if_pos c6] at H
     have c6b0 : decide (4096 < (a1.size : Int)) = true := decide_eq_true c6
     have c6b1 : decide (4096 < a1.size) = true := decide_eq_true z2_
     clear c6
     simp only [Option.some.injEq, Prod.mk.injEq] at H
     obtain ⟨rfl, rfl⟩ := H
     go_wp2
     go_ret2
     exact qpx101_
    ·rw [if_neg c6] at H
     have c6b0 : decide (4096 < (a1.size : Int)) = false := decide_eq_false c6
     have c6b1 : decide (4096 < a1.size) = false := decide_eq_false z2_
     clear c6
     replace H := Option.bind_eq_some_iff.mp H
     obtain ⟨⟨t255, t256⟩, A70, H⟩ := H
     try dsimp only at H
     have A7 := a0_ A70
     clear A70
     obtain ⟨y257, hy257⟩ : ∃ y_ : List Int, y_ = (([(a0) % 256] : List Int)) := ⟨_, rfl⟩
     replace H : (if (strOfNums y257).size + t255.size ≤ 9223372036854775807 then (if ((strOfNums y257) ++ t255).size + a1.size ≤ 9223372036854775807 then ((sum_Of.f (((strOfNums y257) ++ t255) ++ a1)).bind fun t260 => ((octet_Put.f kj2 (wrap64 (t260)) 4).bind fun bt261 => (if (((strOfNums y257) ++ t255) ++ a1).size + bt261.1.size ≤ 9223372036854775807 then (some ((((strOfNums y257) ++ t255) ++ a1) ++ bt261.1, 0)) else (none)))) else (none)) else (none)) = some (r1, r2) := by first | (rw [hy257]; with_reducible exact H) | (have H2_ := (Option.bind_some _ _).symm.trans H; rw [hy257]; with_reducible exact H2_) | (have H2_ := (Option.bind_some _ _).symm.trans H; with_reducible exact H2_) | with_reducible exact H | (rw [hy257]; exact H) | exact H
     have Ny257 := a0_ hy257
     clear hy257
     by_cases c8 : (strOfNums y257).size + t255.size ≤ 9223372036854775807
     ·rw [if_pos c8] at H
      have c8b0 := eq_true c8
      have c8b1 : decide ((strOfNums y257).size + t255.size ≤ 9223372036854775807) = true := decide_eq_true c8
      try have c8b2 : (9223372036854775807 < (strOfNums y257).size + t255.size) = False := eq_false (Nat.not_lt.2 c8)
      by_cases c9 : ((strOfNums y257) ++ t255).size + a1.size ≤ 9223372036854775807
      ·rw [if_pos c9] at H
       have c9b0 := eq_true c9
       have c9b1 : decide (((strOfNums y257) ++ t255).size + a1.size ≤ 9223372036854775807) = true := decide_eq_true c9
       try have c9b2 : (9223372036854775807 < ((strOfNums y257) ++ t255).size + a1.size) = False := eq_false (Nat.not_lt.2 c9)
       (try (have c9b2x := c9b2; simp only [ByteArray.size_append] at c9b2x))
       replace H := Option.bind_eq_some_iff.mp H
       obtain ⟨t260, A100, H⟩ := H
       try dsimp only at H
       have A10 := a0_ A100
       clear A100
       replace H := Option.bind_eq_some_iff.mp H
       obtain ⟨⟨t261, t262⟩, A110, H⟩ := H
       try dsimp only at H
       have A11 := a0_ A110
       clear A110
       by_cases c12 : (((strOfNums y257) ++ t255) ++ a1).size + t261.size ≤ 9223372036854775807
       ·rw [if_pos c12] at H
        have c12b0 := eq_true c12
        have c12b1 : decide ((((strOfNums y257) ++ t255) ++ a1).size + t261.size ≤ 9223372036854775807) = true := decide_eq_true c12
        try have c12b2 : (9223372036854775807 < (((strOfNums y257) ++ t255) ++ a1).size + t261.size) = False := eq_false (Nat.not_lt.2 c12)
        (try (have c12b2x := c12b2; simp only [ByteArray.size_append] at c12b2x))
        simp only [Option.some.injEq, Prod.mk.injEq] at H
        obtain ⟨rfl, rfl⟩ := H
        go_wp2_with (first | ((with_reducible refine gate_callee (f := 80) rfl ?_); refine goesL_ (some 25) rfl rfl Try.func80 z11_ rfl #[.int .i64 (a1.size : Int), .int .i64 2] rfl z12_ ?_; (with_reducible refine (octet_Put.calls kj2 (a1.size : Int) 2 t255 t256 _ A7.out).mono ?_); rintro e w13 ⟨rfl, hb⟩; refine ⟨_, rfl, ?_⟩; replace HB := a0_ (below_step z6_ hb); (try clear hb); (try clear hb2); (try clear hk); (try clear hi)) | ((with_reducible refine gate_dst (N := 30) rfl ?_); refine Kd.R_lit (Kd.int .u8) _ 5 ?hg (N := 30) ?hd (xs := ([(a0) % 256] : List Int)) (inner := [.int .u8 ((a0) % 256)]) (ok := fun _ => True) (okp := fun _ => True) ?hr ?hp (fun _ hk => hk) trivial (Below.refl _ _) (Nat.le_refl _) (by simp) ?_; (case hd => rfl); (case hg => rfl); (case hr => exact z7_); (case hp => exact (Reps.one (show Kd.M (Kd.int .u8) _ _ _ ((a0) % 256) [.int .u8 ((a0) % 256)] from rfl) (Reps.none _ _))); intro v258 w14 ho15 hb hg_ hnew_; clear hg_ hnew_; (first | rw [← Ny257.out] at ho15 | (simp only [Int.reduceToNat] at ho15; rw [← Ny257.out] at ho15)); have HO259 := a0_ (Kd.R_lower ho15 (below_size z6_)); replace HB := a0_ (below_step z6_ hb); clear hb ho15; have hcv16 := own_string (P := Try.prog) Try.underlying111 Try.underlying5 Try.underlying9 (Kd.own_of_R HO259.out)) | ((with_reducible refine gate_callee (f := 112) rfl ?_); refine goesL_ (some 38) rfl rfl Try.func112 z11_ rfl #[.string (((strOfNums y257) ++ t255) ++ a1)] rfl z12_ ?_; (with_reducible refine (sum_Of.calls (((strOfNums y257) ++ t255) ++ a1) t260 _ A10.out).mono ?_); rintro e w17 ⟨rfl, hb⟩; refine ⟨_, rfl, ?_⟩; replace HO259 := a0_ (Kd.R_below z85_ hb); replace HB := a0_ (below_step z6_ hb); (try clear hb); (try clear hb2); (try clear hk); (try clear hi)) | ((with_reducible refine gate_callee (f := 80) rfl ?_); refine goesL_ (some 40) rfl rfl Try.func80 z11_ rfl #[.int .i64 (wrap64 (t260)), .int .i64 4] rfl z12_ ?_; (with_reducible refine (octet_Put.calls kj2 (wrap64 (t260)) 4 t261 t262 _ A11.out).mono ?_); rintro e w18 ⟨rfl, hb⟩; refine ⟨_, rfl, ?_⟩; replace HO259 := a0_ (Kd.R_below z85_ hb); replace HB := a0_ (below_step z6_ hb); (try clear hb); (try clear hb2); (try clear hk); (try clear hi)))
        go_ret2
        exact qpx101_
       ·rw [if_neg c12] at H
        exact absurd H (by simp)
      ·rw [if_neg c9] at H
       exact absurd H (by simp)
     ·rw [if_neg c8] at H
      exact absurd H (by simp)
def link_End_packet.l0 : Nat → Int → ByteArray → List Int → List Int → Int → Int → Option (ByteArray)
 | 0, _, _, _, _, _, _ => none
 | k + 1, x1, x3, x9, x23, x24, x25 => if x25 < x24 then (if 0 ≤ x25 then (if x25 < (x23.length : Int) then ((octet_Put.f k (rd x23 x25) 8).bind fun bt268 => (if x9.length + bt268.1.size < 140737488355328 then (link_End_packet.l0 k x1 x3 (x9 ++ bytesOf bt268.1) x23 x24 (wrap64 (x25 + 1))) else (none))) else (none)) else (none)) else (if (strOfNums x9).size + x3.size ≤ 9223372036854775807 then ((frame_Seal.f k x1 ((strOfNums x9) ++ x3)).bind fun bt273 => (some bt273.1)) else (none))
def link_End_packet.f (k : Nat) (a0_0 : Int) (a0_1 : Int) (a0_2 : Int) (l0_3 : List ByteArray) (a0_4 : Int) (a1 : Int) (a2 : Int) (a3 : ByteArray) : Option (ByteArray) := (some (([a0_0, a0_1, a2, a0_4] : List Int) : List Int)).bind fun y264 => (link_End_packet.l0 k a1 a3 ([] : List Int) y264 (y264.length : Int) 0)
set_option maxHeartbeats 8000000 in
set_option maxRecDepth 100000 in
theorem link_End_packet.calls (k : Nat) (a0_0 : Int) (a0_1 : Int) (a0_2 : Int) (A0_3 : Option Addr) (c0_3 : Nat) (l0_3 : List ByteArray) (a0_4 : Int) (a1 : Int) (a2 : Int) (a3 : ByteArray) (r : ByteArray) (w : World) (hr0_3 : Kd.C Kd.string w A0_3 l0_3.length l0_3) (hc0_3 : l0_3.length ≤ c0_3) (h : link_End_packet.f k a0_0 a0_1 a0_2 l0_3 a0_4 a1 a2 a3 = some r) :
  Calls Try.prog 67 #[.agg #[.int .i64 a0_0, .int .i64 a0_1, .int .i64 a0_2, .slice A0_3 l0_3.length c0_3, .int .i64 a0_4], .int .i64 a1, .int .i64 a2, .string a3] w fun e w' => e = .returned (.string r) ∧ Below w.heap.size w w' := by
 have hu26 := Try.underlying26
 have HR0_3 := a0_ hr0_3
 have HC0_3 := a0_ hc0_3
 clear hr0_3 hc0_3
 have HB := a0_ (Below.refl w.heap.size w)
 have H : ((some (([a0_0, a0_1, a2, a0_4] : List Int) : List Int)).bind fun y264 => (link_End_packet.l0 k a1 a3 ([] : List Int) y264 (y264.length : Int) 0)) = some r := h
 clear h
 obtain ⟨y264, hy264⟩ : ∃ y_ : List Int, y_ = (([a0_0, a0_1, a2, a0_4] : List Int)) := ⟨_, rfl⟩
 replace H : (link_End_packet.l0 k a1 a3 ([] : List Int) y264 (y264.length : Int) 0) = some r := by first | (rw [hy264]; with_reducible exact H) | (have H2_ := (Option.bind_some _ _).symm.trans H; rw [hy264]; with_reducible exact H2_) | (have H2_ := (Option.bind_some _ _).symm.trans H; with_reducible exact H2_) | with_reducible exact H | (rw [hy264]; exact H) | exact H
 have Ny264 := a0_ hy264
 clear hy264
 have H' := a0_ H
 clear H
 go_enter Try.func67, Try.ntmps67
 go_wp2_with (first | ((with_reducible refine gate_dst (N := 4) rfl ?_); refine box_event ?hg (N := 4) ?hd (cs := #[.int .i64 a0_0, .int .i64 a0_1, .int .i64 a0_2, .slice A0_3 l0_3.length c0_3, .int .i64 a0_4]) (t := 26) ?hr ?_; (case hd => rfl); (case hg => rfl); (case hr => exact z7_); intro gb263 hg w5 hbox hb; have n0_ := a0_ (below_step z6_ hb); have n1_ := a0_ (hbox); have n2_ := a0_ ((z8_ : w.heap.size ≤ gb263)); have n3_ := a0_ ((z8_ : w.heap.size ≤ gb263)); clear HB; have HB := n0_; have BK263 := n1_; have GW263 := n2_; have GE263 := n3_; clear n0_ n1_ n2_ n3_; clear hb hbox hg; obtain ⟨hcz6_0, hcz6_1, hcz6_2, hcz6_3, hcz6_4⟩ := bc5_ BK263.out; obtain ⟨hfz6_0, hfz6_1, hfz6_2, hfz6_3, hfz6_4⟩ := bf5_ BK263.out) | ((with_reducible refine gate_dst (N := 23) rfl ?_); refine Kd.R_lit (Kd.int .i64) _ 3 ?hg (N := 23) ?hd (xs := ([a0_0, a0_1, a2, a0_4] : List Int)) (inner := [.int .i64 a0_0, .int .i64 a0_1, .int .i64 a2, .int .i64 a0_4]) (ok := fun _ => True) (okp := fun _ => True) ?hr ?hp (fun _ hk => hk) trivial (Below.refl _ _) (Nat.le_refl _) (by simp) ?_; (case hd => rfl); (case hg => rfl); (case hr => exact z7_); (case hp => exact (Reps.one (show Kd.M (Kd.int .i64) _ _ _ a0_0 [.int .i64 a0_0] from rfl) (Reps.one (show Kd.M (Kd.int .i64) _ _ _ a0_1 [.int .i64 a0_1] from rfl) (Reps.one (show Kd.M (Kd.int .i64) _ _ _ a2 [.int .i64 a2] from rfl) (Reps.one (show Kd.M (Kd.int .i64) _ _ _ a0_4 [.int .i64 a0_4] from rfl) (Reps.none _ _)))))); intro v265 w7 ho8 hb hg_ hnew_; clear hg_ hnew_; (first | rw [← Ny264.out] at ho8 | (simp only [Int.reduceToNat] at ho8; rw [← Ny264.out] at ho8)); have HO266 := a0_ (Kd.R_lower ho8 (below_size z86_)); replace BK263 := a0_ (blk_below z87_ hb); replace HB := a0_ (below_step z86_ hb); clear hb ho8; obtain ⟨Ao9, co9, eo9⟩ := Kd.R_slice HO266.out; subst eo9))
 go_loopg [9, 25] k (fun kq v9 v25 w' => ∃ (x9_1 : List Int) (x25_1 : Int), v25 = .int .i64 x25_1 ∧ Aside0 (link_End_packet.l0 kq a1 a3 x9_1 y264 (y264.length : Int) x25_1 = some r) ∧ Aside0 (kq ≤ k) ∧ Aside0 (Kd.R (Kd.int .u8) 5 w' w.heap.size (fun _ => True) v9 x9_1) ∧ Aside0 (Kd.R (Kd.int .i64) 3 w' w.heap.size (fun _ => True) (.slice Ao9 y264.length co9) y264) ∧ Aside0 (w'.heap[gb263]? = some (.cells #[.int .i64 a0_0, .int .i64 a0_1, .int .i64 a0_2, (.slice A0_3 l0_3.length c0_3), .int .i64 a0_4] 26 (0, 0))) ∧ Aside0 (Below w.heap.size w w'))
 case atStart => exact ⟨(([] : List Int)), (0), z9_, H', ⟨Nat.le_refl _⟩, ⟨z15_⟩, ⟨by (with_reducible repeat (first | apply Kd.R_alloc | apply Kd.R_drewN | apply Kd.R_drew)); exact HO266.out⟩, ⟨z87_⟩, ⟨z86_⟩⟩
 case round =>
  clear H'
  obtain ⟨x9_1, x25_1, rfl, HA, HK1, HO_9, HO_23, BK263, HB⟩ := hrel
  cases gk with
  | zero => exact absurd HA.out (by simp [link_End_packet.l0])
  | succ k1 =>
   have H := HA.out
   clear HA
   simp only [link_End_packet.l0] at H
   by_cases c10 : x25_1 < (y264.length : Int)
   ·rw [if_pos c10] at H
    have c10b0 : decide (x25_1 < (y264.length : Int)) = true := decide_eq_true c10
    clear c10
    by_cases c11 : 0 ≤ x25_1
    ·rw [if_pos c11] at H
     have c11b0 : decide (0 ≤ x25_1) = true := decide_eq_true c11
     clear c11
     by_cases c12 : x25_1 < (y264.length : Int)
     ·rw [if_pos c12] at H
      have c12b0 : decide (x25_1 < (y264.length : Int)) = true := decide_eq_true c12
      clear c12
      replace H := Option.bind_eq_some_iff.mp H
      obtain ⟨⟨t268, t269⟩, A130, H⟩ := H
      try dsimp only at H
      have A13 := a0_ A130
      clear A130
      by_cases c14 : x9_1.length + t268.size < 140737488355328
      ·rw [if_pos c14] at H
       have LMc14 := a0_ c14
       clear c14
       obtain ⟨y270, hy270⟩ : ∃ y_ : List Int, y_ = (x9_1 ++ bytesOf t268) := ⟨_, rfl⟩
       replace H : (link_End_packet.l0 k1 a1 a3 y270 y264 (y264.length : Int) (wrap64 (x25_1 + 1))) = some r := by first | (rw [hy270]; with_reducible exact H) | (have H2_ := (Option.bind_some _ _).symm.trans H; rw [hy270]; with_reducible exact H2_) | (have H2_ := (Option.bind_some _ _).symm.trans H; with_reducible exact H2_) | with_reducible exact H | (rw [hy270]; exact H) | exact H
       have Ny270 := a0_ hy270
       clear hy270
       have H' := a0_ H
       clear H
       have p267 : 0 ≤ (x25_1 : Int) := of_decide_eq_true z19_
       have q267 : x25_1 < (y264.length : Int) := of_decide_eq_true z19_
       obtain ⟨ad267, e267, hx267_0⟩ := Kd.at_int (Kd.R_reads' HO_23.out).2.2 x25_1 p267 q267
       cases e267
       replace p267 := eq_true p267
       replace q267 := eq_true q267
       go_wp2_with (first | ((with_reducible refine gate_callee (f := 80) rfl ?_); refine goesL_ (some 31) rfl rfl Try.func80 z11_ rfl #[.int .i64 (rd y264 x25_1), .int .i64 8] rfl z12_ ?_; (with_reducible refine (octet_Put.calls k1 (rd y264 x25_1) 8 t268 t269 _ A13.out).mono ?_); rintro e w15 ⟨rfl, hb⟩; refine ⟨_, rfl, ?_⟩; replace HO_9 := a0_ (Kd.R_below z83_ hb); replace HO_23 := a0_ (Kd.R_below z88_ hb); replace BK263 := a0_ (blk_below z87_ hb); replace HB := a0_ (below_step z86_ hb); (try clear hb); (try clear hb2); (try clear hk); (try clear hi)) | (at_builtin; refine print_append_str (w0 := w) w.heap.size rfl (.tmp 34) _ 111 9 5 rfl Try.underlying111 Try.underlying9 info5 u9 x9_1 t268 rfl rfl ?aO ?aB ?aS ?aL ?_; (case aB => exact z86_); (case aO => exact (Kd.own_of_R z83_)); (case aS => exact (below_size z86_)); (case aL => exact z45_); intro v271 w16 ho0 hb hg; have ho := Kd.R_of_own (h1 := fun _ => rfl) (ok := fun _ => True) ho0 (fun _ _ => trivial); clear ho0; have hat := True.intro; rw [← Ny270.out] at ho; change Kd.R (Kd.int .u8) 5 w16 w.heap.size (fun _ => True) v271 y270 at ho; have n0_ := a0_ (Kd.R_over' z88_ (Kd.R_typed z83_) z17_ hg); have n1_ := a0_ (blk_grown (g := gb263) (o := .cells #[.int .i64 a0_0, .int .i64 a0_1, .int .i64 a0_2, .slice A0_3 l0_3.length c0_3, .int .i64 a0_4] 26 (0, 0)) z87_ hg (Kd.R_ne HO_9.out BK263.out z17_)); have n2_ := a0_ (hb); have n3_ := a0_ (ho); clear HO_23; clear BK263; clear HB; clear HO_9; have HO_23 := n0_; have BK263 := n1_; have HB := n2_; have HO272 := n3_; clear n0_ n1_ n2_ n3_; clear ho hb hg hat))
       go_roundg k1
       case measure => have := HK1.out; omega
       case rel => exact ⟨(y270), (wrap64 (x25_1 + 1)), z9_, H', ⟨z21_⟩, ⟨by (with_reducible repeat (first | apply Kd.R_alloc | apply Kd.R_drewN | apply Kd.R_drew)); exact HO272.out⟩, ⟨z88_⟩, ⟨z87_⟩, ⟨z86_⟩⟩
      ·rw [if_neg c14] at H
       exact absurd H (by simp)
     ·rw [if_neg c12] at H
      exact absurd H (by simp)
    ·rw [if_neg c11] at H
     exact absurd H (by simp)
   ·rw [if_neg c10] at H
    have c10b0 : decide (x25_1 < (y264.length : Int)) = false := decide_eq_false c10
    clear c10
    by_cases c17 : (strOfNums x9_1).size + a3.size ≤ 9223372036854775807
    ·rw [if_pos c17] at H
     have c17b0 := eq_true c17
     have c17b1 : decide ((strOfNums x9_1).size + a3.size ≤ 9223372036854775807) = true := decide_eq_true c17
     try have c17b2 : (9223372036854775807 < (strOfNums x9_1).size + a3.size) = False := eq_false (Nat.not_lt.2 c17)
     replace H := Option.bind_eq_some_iff.mp H
     obtain ⟨⟨t273, t274⟩, A180, H⟩ := H
     try dsimp only at H
     have A18 := a0_ A180
     clear A180
     obtain rfl := Option.some.inj H
     have hcv19 := own_string (P := Try.prog) Try.underlying111 Try.underlying5 Try.underlying9 (Kd.own_of_R HO_9.out)
     go_wp2_with (first | ((with_reducible refine gate_callee (f := 98) rfl ?_); refine goesL_ (some 44) rfl rfl Try.func98 z11_ rfl #[.int .i64 a1, .string ((strOfNums x9_1) ++ a3)] rfl z12_ ?_; (with_reducible refine (frame_Seal.calls k1 a1 ((strOfNums x9_1) ++ a3) t273 t274 _ A18.out).mono ?_); rintro e w20 ⟨rfl, hb⟩; refine ⟨_, rfl, ?_⟩; replace HO_9 := a0_ (Kd.R_below z83_ hb); replace HO_23 := a0_ (Kd.R_below z88_ hb); replace BK263 := a0_ (blk_below z87_ hb); replace HB := a0_ (below_step z86_ hb); (try clear hb); (try clear hb2); (try clear hk); (try clear hi)))
     go_ret
     exact ⟨z3_, z86_⟩
    ·rw [if_neg c17] at H
     exact absurd H (by simp)
def slices_Clone_string_string.f (l0 : List ByteArray) : Option (List ByteArray) := if l0.length ≤ 8796093022208 then some l0 else none
theorem infoStr : (Try.prog.info? 9).map (fun i => (i.zero, i.size, i.bytes)) = some (some (.string ⟨#[]⟩), 1, 16) := by kernel_rfl
set_option maxHeartbeats 1000000 in
set_option maxRecDepth 100000 in
theorem slices_Clone_string_string.calls (A0 : Option Addr) (c0 : Nat) (l0 : List ByteArray) (r : List ByteArray) (w : World) (hr0 : Kd.C Kd.string w A0 l0.length l0) (hc0 : l0.length ≤ c0) (h : slices_Clone_string_string.f l0 = some r) :
  Calls Try.prog 69 #[.slice A0 l0.length c0] w fun e w' => ∃ v0_ : Value, e = .returned v0_ ∧ Kd.R Kd.string 9 w' w.heap.size (fun _ => True) v0_ r ∧ Below w.heap.size w w' := by
 have HB := a0_ (Below.refl w.heap.size w)
 unfold slices_Clone_string_string.f at h
 by_cases c1 : l0.length ≤ 8796093022208
 ·rw [if_pos c1] at h
  obtain rfl : l0 = r := by injection h
  cases A0 with
  | none =>
   have hl : l0 = [] := by
    cases l0 with
    | nil => rfl
    | cons x xs => obtain ⟨ad, e, _⟩ := hr0.2.2 (by simp); cases e
   subst hl
   clear h hr0
   have hq := fun w' => run_eql_slice_nil (P := Try.prog) w' 24 9 none 0 c0 Try.underlying24
   go_enter Try.func69, Try.ntmps69
   go_wp2
   go_ret
   exact ⟨_, rfl, Kd.R_nil _ _ _ _ _, HB.out⟩
  | some a0 =>
   have HR := a0_ hr0
   have HL := a0_ c1
   clear h hr0 c1 hc0
   have hq := fun w' => run_eql_slice_nil (P := Try.prog) w' 24 9 (some a0) l0.length c0 Try.underlying24
   go_enter Try.func69, Try.ntmps69
   go_wp2_with (first | ((with_reducible refine gate_dst (N := 5) rfl ?_); refine Kd.R_lit Kd.string _ 9 ?hg (N := 5) ?hd (xs := ([] : List ByteArray)) (inner := []) (ok := fun _ => True) (okp := fun _ => True) ?hr ?hp (fun _ hk => hk) trivial (Below.refl _ _) (Nat.le_refl _) (by simp) ?_; (case hd => rfl); (case hg => rfl); (case hr => exact z89_); (case hp => exact Reps.none _ _); intro v5 w5 ho5 hb hg_ hnew_; have HO5 := a0_ ho5; have HB5 := a0_ (below_step HB.out hb); clear hg_ hnew_ hb ho5) | ((with_reducible refine gate_builtin (b := .append) (xs := #[.tmp 5, .tmp 6]) rfl ?_); at_builtin; refine Kd.R_append_rows Kd.string (w0 := w) w.heap.size rfl (.tmp 5) (.tmp 6) 24 9 (.string ⟨#[]⟩) 16 rfl Try.underlying24 infoStr rfl z17_ z2_ v5 [] l0 _ _ _ (fun _ => True) (fun _ => False) rfl rfl ?aO ?aR (fun _ _ h => h) (fun _ h => h.elim) ?aF ?aB ?aS ?aL ?_; (case aO => exact HO5.out); (case aR => exact Kd.C_below HR.out HB5.out); (case aF => exact fun _ _ => trivial); (case aB => exact HB5.out); (case aS => exact below_size HB5.out); (case aL => have := HL.out; simp only [List.length_nil]; omega); intro v7 w7 ho7 hb7 hg_ hat_; have HO7 := a0_ ho7; have HB7 := a0_ hb7; clear ho7 hb7 hg_ hat_))
   go_ret
   exact ⟨_, rfl, HO7.out, HB7.out⟩
 ·rw [if_neg c1] at h; cases h
end Go.Proofs.Ytecfndblgefhdaa.P
