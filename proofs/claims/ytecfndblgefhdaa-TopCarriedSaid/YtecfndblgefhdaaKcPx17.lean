import Derived.Test.YtecfndblgefhdaaKcRoadF
namespace Go.Proofs.Ytecfndblgefhdaa.P
open Go.RowKit Go.Proofs.YtecfndblgefhdaaW.PrintWords Go.Proofs.YtecfndblgefhdaaW.PrintLast Go.Proofs.YtecfndblgefhdaaW.PrintMore
attribute [local go_sem] max2_int min2_int max_two min_two max_three min_three max_four min_four
set_option linter.unusedVariables false
set_option linter.unusedSimpArgs false
mutual
def dirty_Parse.j0 : Nat → Int → ByteArray → Bool → Option ((List (S166)) × ByteArray × Int)
 | 0, _, _, _ => none
 | k + 1, x5, x6, x25 => if x25 = true then (some (([] : List (S166)), (⟨#[]⟩ : ByteArray), 2)) else (dirty_Parse.l0 k x6 ([] : List (S166)) x5 0)
def dirty_Parse.l0 : Nat → ByteArray → List (S166) → Int → Int → Option ((List (S166)) × ByteArray × Int)
 | 0, _, _, _, _ => none
 | k + 1, x6, x8, x26, x27 => if x27 < x26 then (if 1 ≤ 5 then (if 5 ≤ (x6.size : Int) then ((octet_Get.f k (x6.extract 1 5)).bind fun bt358 => (if 0 < (x6.size : Int) then (if x8.length < 8796093022208 then (dirty_Parse.l0 k (x6.extract 5 x6.size) (x8 ++ [(⟨wrap64 (bt x6 0), IntKind.u64.wrap (bt358.1)⟩ : S166)]) x26 (wrap64 (x27 + 1))) else (none)) else (none))) else (none)) else (none)) else ((dirty_Right.f k x8).bind fun t363 => (if t363 = true then (some (x8, x6, 0)) else (some (([] : List (S166)), (⟨#[]⟩ : ByteArray), 3))))
end
def dirty_Parse.f (k : Nat) (a0 : ByteArray) : Option ((List (S166)) × ByteArray × Int) := (octet_Number.f k a0 1).bind fun bt355 => (if bt355.2.2 = 0 then (dirty_Parse.j0 k bt355.1 bt355.2.1 (decide ((bt355.2.1.size : Int) < (wrap64 (5 * bt355.1))))) else (dirty_Parse.j0 k bt355.1 bt355.2.1 true))
set_option maxHeartbeats 8000000 in
set_option maxRecDepth 100000 in
theorem dirty_Parse.calls (k : Nat) (a0 : ByteArray) (r1 : List (S166)) (r2 : ByteArray) (r3 : Int) (w : World) (h : dirty_Parse.f k a0 = some (r1, r2, r3)) :
  Calls Try.prog 35 #[.string a0] w fun e w' => ∃ v0_ : Value, e = .returned (.tuple #[v0_, .string r2, .int .i64 r3]) ∧ Kd.R k166 166 w' w.heap.size (fun _ => True) v0_ r1 ∧ Below w.heap.size w w' := by
 have hu166 := Try.underlying166
 have HB := a0_ (Below.refl w.heap.size w)
 have H : ((octet_Number.f k a0 1).bind fun bt355 => (if bt355.2.2 = 0 then (dirty_Parse.j0 k bt355.1 bt355.2.1 (decide ((bt355.2.1.size : Int) < (wrap64 (5 * bt355.1))))) else (dirty_Parse.j0 k bt355.1 bt355.2.1 true))) = some (r1, r2, r3) := h
 clear h
 replace H := Option.bind_eq_some_iff.mp H
 obtain ⟨⟨t355, t356, t357⟩, A20, H⟩ := H
 try dsimp only at H
 have A2 := a0_ A20
 clear A20
 have HC3 := a0_ H
 clear H
 go_enter Try.func35, Try.ntmps35
 go_upto_region 2 with (first | ((with_reducible refine gate_callee (f := 71) rfl ?_); refine goesL_ (some 13) rfl rfl Try.func71 z11_ rfl #[.string a0, .int .i64 1] rfl z12_ ?_; (with_reducible refine (octet_Number.calls k a0 1 t355 t356 t357 _ A2.out).mono ?_); rintro e w' ⟨rfl, ⟨nd, rfl⟩⟩; refine ⟨_, rfl, ?_⟩))
 (try simp only [Act.put, List.setIfInBounds_toArray, List.set_cons_zero, List.set_cons_succ])
 go_cut [25] (fun v25 wc => ∃ (kq : Nat) (x25_2 : Bool), v25 = .bool x25_2 ∧ Aside0 (dirty_Parse.j0 kq t355 t356 x25_2 = some (r1, r2, r3)) ∧ Aside0 (kq ≤ k) ∧ Aside0 (Below w.heap.size w wc))
 case first =>
  have H := HC3.out
  clear HC3
  by_cases c4 : t357 = 0
  ·rw [if_pos c4] at H
   have c4b0 : (t357 == 0) = true := beq_iff_eq.mpr c4
   have c4b1 : (t357 != 0) = false := bne_eq_false_iff_eq.mpr c4
   clear c4
   (first | rw [c4b0] | (simp only [i64_w, i32_w]; rw [c4b0]) | skip)
   have H' := a0_ H
   clear H
   go_wp2
   go_meet
   case rel => exact ⟨_, (decide ((t356.size : Int) < (wrap64 (5 * t355)))), z9_, H', ⟨z18_⟩, ⟨z6_⟩⟩
  ·rw [if_neg c4] at H
   have c4b0 : (t357 == 0) = false := beq_eq_false_iff_ne.mpr c4
   have c4b1 : (t357 != 0) = true := bne_iff_ne.mpr c4
   (first | rw [c4b0] | (simp only [i64_w, i32_w]; rw [c4b0]) | skip)
   have H' := a0_ H
   clear H
   go_wp2
   go_meet
   case rel => exact ⟨_, (true), z9_, H', ⟨z18_⟩, ⟨z6_⟩⟩
 case rest =>
  clear HC3
  obtain ⟨kq, x25_2, rfl, HA, HJ2, HB⟩ := hcut
  cases kq with
  | zero => exact absurd HA.out (by simp [dirty_Parse.j0])
  | succ kj2 =>
   have H := HA.out
   clear HA
   simp only [dirty_Parse.j0] at H
   by_cases c5 : x25_2 = true
   ·subst c5
    rw [if_pos rfl] at H
    simp only [Option.some.injEq, Prod.mk.injEq] at H
    obtain ⟨rfl, rfl, rfl⟩ := H
    go_wp2
    go_ret3
    exact ⟨_, z3_, z15_, z6_⟩
   ·replace c5 := Bool.eq_false_iff.mpr c5
    subst c5
    rw [if_neg (show ¬ (false = true) from z17_)] at H
    have H' := a0_ H
    clear H
    go_wp2
    go_loopg [6, 8, 27] kj2 (fun kq v6 v8 v27 w' => ∃ (x6_2 : ByteArray) (x8_2 : List (S166)) (x27_2 : Int), v6 = .string x6_2 ∧ v27 = .int .i64 x27_2 ∧ Aside0 (dirty_Parse.l0 kq x6_2 x8_2 t355 x27_2 = some (r1, r2, r3)) ∧ Aside0 (kq ≤ kj2) ∧ Aside0 (Kd.R k166 166 w' w.heap.size (fun _ => True) v8 x8_2) ∧ Aside0 (Below w.heap.size w w'))
    case atStart => exact ⟨(t356), (([] : List (S166))), (0), z9_, z9_, H', ⟨Nat.le_refl _⟩, ⟨z15_⟩, ⟨z6_⟩⟩
    case round =>
     clear H'
     obtain ⟨x6_2, x8_2, x27_2, rfl, rfl, HA, HK2, HO_8, HB⟩ := hrel
     cases gk with
     | zero => exact absurd HA.out (by simp [dirty_Parse.l0])
     | succ k2 =>
      have H := HA.out
      clear HA
      simp only [dirty_Parse.l0] at H
      by_cases c6 : x27_2 < t355
      ·rw [if_pos c6] at H
       have c6b0 : decide (x27_2 < t355) = true := decide_eq_true c6
       clear c6
       by_cases c7 : 1 ≤ 5
       ·rw [if_pos c7] at H
        have c7b0 := eq_true c7
        have c7b1 : decide (1 ≤ 5) = true := decide_eq_true c7
        clear c7
        by_cases c8 : 5 ≤ (x6_2.size : Int)
        ·rw [if_pos c8] at H
         have c8b0 := eq_true c8
         have c8b1 : decide (5 ≤ (x6_2.size : Int)) = true := decide_eq_true c8
         clear c8
         replace H := Option.bind_eq_some_iff.mp H
         obtain ⟨⟨t358, t359⟩, A90, H⟩ := H
         try dsimp only at H
         have A9 := a0_ A90
         clear A90
         by_cases c10 : 0 < (x6_2.size : Int)
         ·rw [if_pos c10] at H
          have c10b0 : decide (0 < (x6_2.size : Int)) = true := decide_eq_true c10
          have c10b1 : decide (0 < x6_2.size) = true := decide_eq_true z2_
          clear c10
          by_cases c12 : x8_2.length < 8796093022208
          ·rw [if_pos c12] at H
           have LMc12 := a0_ c12
           clear c12
           obtain ⟨y360, hy360⟩ : ∃ y_ : List (S166), y_ = (x8_2 ++ [(⟨wrap64 (bt x6_2 0), IntKind.u64.wrap (t358)⟩ : S166)]) := ⟨_, rfl⟩
           replace H : (dirty_Parse.l0 k2 (x6_2.extract 5 x6_2.size) y360 t355 (wrap64 (x27_2 + 1))) = some (r1, r2, r3) := by first | (rw [hy360]; with_reducible exact H) | (have H2_ := (Option.bind_some _ _).symm.trans H; rw [hy360]; with_reducible exact H2_) | (have H2_ := (Option.bind_some _ _).symm.trans H; with_reducible exact H2_) | with_reducible exact H | (rw [hy360]; exact H) | exact H
           have Ny360 := a0_ hy360
           clear hy360
           have c13b0 := eq_true (of_decide_eq_true z19_ : 5 ≤ (x6_2.size : Int))
           have H' := a0_ H
           clear H
           go_wp2_with (first | ((with_reducible refine gate_callee (f := 73) rfl ?_); refine goesL_ (some 32) rfl rfl Try.func73 z11_ rfl #[.string (x6_2.extract 1 5)] rfl z12_ ?_; (with_reducible refine (octet_Get.calls k2 (x6_2.extract 1 5) t358 t359 _ A9.out).mono ?_); rintro e w' ⟨rfl, ⟨nd, rfl⟩⟩; refine ⟨_, rfl, ?_⟩; have p11 : 0 ≤ (0 : Int) := z2_; have q11 : 0 < x6_2.size := (by have : (0 : Int) < (x6_2.size : Int) := of_decide_eq_true z19_; omega); have hx11 : ∀ h : 0 < x6_2.size, ((x6_2[0]'h).toNat : Int) = bt x6_2 0 := bt_at x6_2 0; clear p11; have qi11 : (0 < (x6_2.size : Int)) = True := eq_true (of_decide_eq_true z19_); replace q11 := eq_true q11) | ((with_reducible refine gate_builtin (b := .append) (xs := #[.tmp 35, .tmp 42]) rfl ?_); (try (refine gate_guard (by rfl) ?_; dsimp only)); at_builtin; refine Kd.R_append k166 (w0 := w) w.heap.size rfl (.tmp 35) (.tmp 42) 47 166 (.agg #[(.int .i64 0), (.int .u64 0)]) 16 rfl Try.underlying47 info166 rfl z17_ z2_ u8 x8_2 (⟨wrap64 (bt x6_2 0), IntKind.u64.wrap (t358)⟩ : S166) [.int .i64 (wrap64 (bt x6_2 0)), .int .u64 (IntKind.u64.wrap (t358))] (fun _ => True) (fun _ => False) rfl rfl ?aP (fun _ hk => hk.elim) ?aF ?aO ?aB ?aS ?aL ?_; (case aP => exact k166_mkM _ _ _ (⟨wrap64 (bt x6_2 0), IntKind.u64.wrap (t358)⟩ : S166)); (case aB => exact z42_); (case aF => exact z43_); (case aO => exact z168_); (case aS => exact z44_); (case aL => have := LMc12.out; omega); intro v361 w14 ho hb hg hat; rw [← Ny360.out] at ho; have n0_ := a0_ (hb); have n1_ := a0_ (ho); clear HB; clear HO_8; have HB := n0_; have HO362 := n1_; clear n0_ n1_; clear ho hb hg hat))
           go_roundg k2
           case measure => have := HJ2.out; have := HK2.out; omega
           case rel => exact ⟨(x6_2.extract 5 x6_2.size), (y360), (wrap64 (x27_2 + 1)), z9_, z9_, H', ⟨z56_⟩, ⟨by (with_reducible repeat (first | apply Kd.R_alloc | apply Kd.R_drewN | apply Kd.R_drew)); exact HO362.out⟩, ⟨z6_⟩⟩
          ·rw [if_neg c12] at H
           exact absurd H (by simp)
         ·rw [if_neg c10] at H
          exact absurd H (by simp)
        ·rw [if_neg c8] at H
         exact absurd H (by simp)
       ·rw [if_neg c7] at H
        exact absurd H (by simp)
      ·rw [if_neg c6] at H
       have c6b0 : decide (x27_2 < t355) = false := decide_eq_false c6
       clear c6
       replace H := Option.bind_eq_some_iff.mp H
       obtain ⟨t363, A150, H⟩ := H
       try dsimp only at H
       have A15 := a0_ A150
       clear A150
       by_cases c16 : t363 = true
       ·subst c16
        rw [if_pos rfl] at H
        simp only [Option.some.injEq, Prod.mk.injEq] at H
        obtain ⟨rfl, rfl, rfl⟩ := H
        obtain ⟨Ao17, co17, eo17⟩ := Kd.R_slice HO_8.out
        subst eo17
        go_wp2_with (first | ((with_reducible refine gate_callee (f := 74) rfl ?_); refine goesL_ (some 48) rfl rfl Try.func74 z11_ rfl #[.slice Ao17 x8_2.length co17] rfl z12_ ?_; (with_reducible refine (dirty_Right.calls k2 _ _ x8_2 true _ ?side1 ?side2 A15.out).mono ?_); (case side1 => exact z169_); (case side2 => exact (Kd.R_reads' HO_8.out).2.1); rintro e w18 ⟨rfl, hb⟩; refine ⟨_, rfl, ?_⟩; replace HO_8 := a0_ (Kd.R_below z168_ hb); replace HB := a0_ (below_step z6_ hb); (try clear hb); (try clear hb2); (try clear hk); (try clear hi)))
        go_ret3
        exact ⟨_, z3_, z168_, z6_⟩
       ·replace c16 := Bool.eq_false_iff.mpr c16
        subst c16
        rw [if_neg (show ¬ (false = true) from z17_)] at H
        simp only [Option.some.injEq, Prod.mk.injEq] at H
        obtain ⟨rfl, rfl, rfl⟩ := H
        obtain ⟨Ao19, co19, eo19⟩ := Kd.R_slice HO_8.out
        subst eo19
        go_wp2_with (first | ((with_reducible refine gate_callee (f := 74) rfl ?_); refine goesL_ (some 48) rfl rfl Try.func74 z11_ rfl #[.slice Ao19 x8_2.length co19] rfl z12_ ?_; (with_reducible refine (dirty_Right.calls k2 _ _ x8_2 false _ ?side1 ?side2 A15.out).mono ?_); (case side1 => exact z169_); (case side2 => exact (Kd.R_reads' HO_8.out).2.1); rintro e w20 ⟨rfl, hb⟩; refine ⟨_, rfl, ?_⟩; replace HO_8 := a0_ (Kd.R_below z168_ hb); replace HB := a0_ (below_step z6_ hb); (try clear hb); (try clear hb2); (try clear hk); (try clear hi)))
        go_ret3
        exact ⟨_, z3_, z15_, z6_⟩
def octet_Take.f (k : Nat) (a0 : ByteArray) : Option (ByteArray × ByteArray × Int) := (octet_Number.f k a0 2).bind fun bt364 => (if bt364.2.2 = 0 then (if (bt364.2.1.size : Int) < bt364.1 then (some ((⟨#[]⟩ : ByteArray), (⟨#[]⟩ : ByteArray), 2)) else (if 0 ≤ bt364.1 then (if bt364.1 ≤ (bt364.2.1.size : Int) then (some (bt364.2.1.extract 0 (bt364.1 : Int).toNat, bt364.2.1.extract (bt364.1 : Int).toNat bt364.2.1.size, 0)) else (none)) else (none))) else (some ((⟨#[]⟩ : ByteArray), (⟨#[]⟩ : ByteArray), 2)))
set_option maxHeartbeats 8000000 in
set_option maxRecDepth 100000 in
theorem octet_Take.calls (k : Nat) (a0 : ByteArray) (r1 : ByteArray) (r2 : ByteArray) (r3 : Int) (w : World) (h : octet_Take.f k a0 = some (r1, r2, r3)) :
  Calls Try.prog 75 #[.string a0] w fun e w' => e = .returned (.tuple #[.string r1, .string r2, .int .i64 r3]) ∧ Drawn0 w w' := by
 have H : ((octet_Number.f k a0 2).bind fun bt364 => (if bt364.2.2 = 0 then (if (bt364.2.1.size : Int) < bt364.1 then (some ((⟨#[]⟩ : ByteArray), (⟨#[]⟩ : ByteArray), 2)) else (if 0 ≤ bt364.1 then (if bt364.1 ≤ (bt364.2.1.size : Int) then (some (bt364.2.1.extract 0 (bt364.1 : Int).toNat, bt364.2.1.extract (bt364.1 : Int).toNat bt364.2.1.size, 0)) else (none)) else (none))) else (some ((⟨#[]⟩ : ByteArray), (⟨#[]⟩ : ByteArray), 2)))) = some (r1, r2, r3) := h
 clear h
 replace H := Option.bind_eq_some_iff.mp H
 obtain ⟨⟨t364, t365, t366⟩, A20, H⟩ := H
 try dsimp only at H
 have A2 := a0_ A20
 clear A20
 by_cases c3 : t366 = 0
 ·rw [if_pos c3] at H
  have c3b0 : (t366 == 0) = true := beq_iff_eq.mpr c3
  have c3b1 : (t366 != 0) = false := bne_eq_false_iff_eq.mpr c3
  clear c3
  by_cases c4 : (t365.size : Int) < t364
  ·rw [if_pos c4] at H
   have c4b0 : decide ((t365.size : Int) < t364) = true := decide_eq_true c4
   clear c4
   simp only [Option.some.injEq, Prod.mk.injEq] at H
   obtain ⟨rfl, rfl, rfl⟩ := H
   go_enter Try.func75, Try.ntmps75
   go_wp2_with (first | (go_at_call 71; (with_reducible refine (octet_Number.calls k a0 2 t364 t365 t366 _ A2.out).mono ?_); rintro e w' ⟨rfl, ⟨nd, rfl⟩⟩; (try first | exact ⟨rfl, _, World.drewN_drewN _ _ _⟩ | exact ⟨rfl, _, Eq.trans (World.drewN_drewN _ _ _) (congrArg (World.drewN _) (Nat.add_assoc _ _ _))⟩)))
   repeat (go_quiet (first | (go_at_call 71; (with_reducible refine (octet_Number.calls k a0 2 t364 t365 t366 _ A2.out).mono ?_); rintro e w' ⟨rfl, ⟨nd, rfl⟩⟩; (try first | exact ⟨rfl, _, World.drewN_drewN _ _ _⟩ | exact ⟨rfl, _, Eq.trans (World.drewN_drewN _ _ _) (congrArg (World.drewN _) (Nat.add_assoc _ _ _))⟩))); try go_wp2_with (first | (go_at_call 71; (with_reducible refine (octet_Number.calls k a0 2 t364 t365 t366 _ A2.out).mono ?_); rintro e w' ⟨rfl, ⟨nd, rfl⟩⟩; (try first | exact ⟨rfl, _, World.drewN_drewN _ _ _⟩ | exact ⟨rfl, _, Eq.trans (World.drewN_drewN _ _ _) (congrArg (World.drewN _) (Nat.add_assoc _ _ _))⟩))))
   go_ret3
   exact ⟨z9_, z10_⟩
  ·rw [if_neg c4] at H
   have c4b0 : decide ((t365.size : Int) < t364) = false := decide_eq_false c4
   clear c4
   by_cases c5 : 0 ≤ t364
   ·rw [if_pos c5] at H
    have c5b0 := eq_true c5
    have c5b1 : decide (0 ≤ t364) = true := decide_eq_true c5
    clear c5
    by_cases c6 : t364 ≤ (t365.size : Int)
    ·rw [if_pos c6] at H
     have c6b0 := eq_true c6
     have c6b1 : decide (t364 ≤ (t365.size : Int)) = true := decide_eq_true c6
     clear c6
     have c7b0 := eq_true (of_decide_eq_true z19_ : 0 ≤ t364)
     have c8b0 := eq_true (of_decide_eq_true z19_ : t364 ≤ (t365.size : Int))
     simp only [Option.some.injEq, Prod.mk.injEq] at H
     obtain ⟨rfl, rfl, rfl⟩ := H
     go_enter Try.func75, Try.ntmps75
     go_wp2_with (first | (go_at_call 71; (with_reducible refine (octet_Number.calls k a0 2 t364 t365 t366 _ A2.out).mono ?_); rintro e w' ⟨rfl, ⟨nd, rfl⟩⟩; (try first | exact ⟨rfl, _, World.drewN_drewN _ _ _⟩ | exact ⟨rfl, _, Eq.trans (World.drewN_drewN _ _ _) (congrArg (World.drewN _) (Nat.add_assoc _ _ _))⟩)))
     repeat (go_quiet (first | (go_at_call 71; (with_reducible refine (octet_Number.calls k a0 2 t364 t365 t366 _ A2.out).mono ?_); rintro e w' ⟨rfl, ⟨nd, rfl⟩⟩; (try first | exact ⟨rfl, _, World.drewN_drewN _ _ _⟩ | exact ⟨rfl, _, Eq.trans (World.drewN_drewN _ _ _) (congrArg (World.drewN _) (Nat.add_assoc _ _ _))⟩))); try go_wp2_with (first | (go_at_call 71; (with_reducible refine (octet_Number.calls k a0 2 t364 t365 t366 _ A2.out).mono ?_); rintro e w' ⟨rfl, ⟨nd, rfl⟩⟩; (try first | exact ⟨rfl, _, World.drewN_drewN _ _ _⟩ | exact ⟨rfl, _, Eq.trans (World.drewN_drewN _ _ _) (congrArg (World.drewN _) (Nat.add_assoc _ _ _))⟩))))
     go_ret3
     exact ⟨z9_, z10_⟩
    ·rw [if_neg c6] at H
     exact absurd H (by simp)
   ·rw [if_neg c5] at H
    exact absurd H (by simp)
 ·rw [if_neg c3] at H
  have c3b0 : (t366 == 0) = false := beq_eq_false_iff_ne.mpr c3
  have c3b1 : (t366 != 0) = true := bne_iff_ne.mpr c3
  simp only [Option.some.injEq, Prod.mk.injEq] at H
  obtain ⟨rfl, rfl, rfl⟩ := H
  go_enter Try.func75, Try.ntmps75
  go_wp2_with (first | (go_at_call 71; (with_reducible refine (octet_Number.calls k a0 2 t364 t365 t366 _ A2.out).mono ?_); rintro e w' ⟨rfl, ⟨nd, rfl⟩⟩; (try first | exact ⟨rfl, _, World.drewN_drewN _ _ _⟩ | exact ⟨rfl, _, Eq.trans (World.drewN_drewN _ _ _) (congrArg (World.drewN _) (Nat.add_assoc _ _ _))⟩)))
  repeat (go_quiet (first | (go_at_call 71; (with_reducible refine (octet_Number.calls k a0 2 t364 t365 t366 _ A2.out).mono ?_); rintro e w' ⟨rfl, ⟨nd, rfl⟩⟩; (try first | exact ⟨rfl, _, World.drewN_drewN _ _ _⟩ | exact ⟨rfl, _, Eq.trans (World.drewN_drewN _ _ _) (congrArg (World.drewN _) (Nat.add_assoc _ _ _))⟩))); try go_wp2_with (first | (go_at_call 71; (with_reducible refine (octet_Number.calls k a0 2 t364 t365 t366 _ A2.out).mono ?_); rintro e w' ⟨rfl, ⟨nd, rfl⟩⟩; (try first | exact ⟨rfl, _, World.drewN_drewN _ _ _⟩ | exact ⟨rfl, _, Eq.trans (World.drewN_drewN _ _ _) (congrArg (World.drewN _) (Nat.add_assoc _ _ _))⟩))))
  go_ret3
  exact ⟨z9_, z10_⟩
end Go.Proofs.Ytecfndblgefhdaa.P
set_option linter.unusedVariables false
set_option linter.unusedSimpArgs false
namespace Go.Proofs.Ytecfndblgefhdaa.P
open Go.RowKit Go.Proofs.YtecfndblgefhdaaW.PrintWords Go.Proofs.YtecfndblgefhdaaW.PrintLast Go.Proofs.YtecfndblgefhdaaW.PrintMore
attribute [local go_sem] max2_int min2_int max_two min_two max_three min_three max_four min_four
def msg_rdr (k : Nat) (s : ByteArray) (width : Int) : Option (Int × ByteArray) := (msg_reader_number.f k s false width).bind fun r => if r.2.2 = false then some (r.1, r.2.1) else none
theorem rdr_some {k : Nat} {s t : ByteArray} {width n : Int} (h : msg_rdr k s width = some (n, t)) : msg_reader_number.f k s false width = some (n, t, false) := by
 obtain ⟨⟨a, b, c⟩, h1, h2⟩ := Option.bind_eq_some_iff.1 h
 cases c with
 | true => rw [if_neg (by simp)] at h2; cases h2
 | false =>
  rw [if_pos rfl] at h2
  simp only [Option.some.injEq, Prod.mk.injEq] at h2
  obtain ⟨rfl, rfl⟩ := h2
  exact h1
def msg_lin (k : Nat) (s : ByteArray) : Option (List S160 × ByteArray) := (msg_reader_line.f k s false).bind fun r => if r.2.2 = false then some (r.1, r.2.1) else none
theorem lin_some {k : Nat} {s t : ByteArray} {l : List S160} (h : msg_lin k s = some (l, t)) : msg_reader_line.f k s false = some (l, t, false) := by
 obtain ⟨⟨a, b, c⟩, h1, h2⟩ := Option.bind_eq_some_iff.1 h
 cases c with
 | true => rw [if_neg (by simp)] at h2; cases h2
 | false =>
  rw [if_pos rfl] at h2
  simp only [Option.some.injEq, Prod.mk.injEq] at h2
  obtain ⟨rfl, rfl⟩ := h2
  exact h1
def msg_wrs.go (k : Nat) : Nat → List S120 → ByteArray → Option (List S120 × ByteArray)
 | 0, out, s => some (out, s)
 | n + 1, out, s => (msg_rdr k s 1).bind fun a => (msg_rdr k a.2 1).bind fun b => (octet_Take.f k b.2).bind fun c => if c.2.2 = 0 ∧ out.length < 4398046511104 then msg_wrs.go k n (out ++ [⟨a.1, b.1, c.1⟩]) c.2.1 else none
def msg_wrs (k : Nat) (s : ByteArray) : Option (List S120 × ByteArray) := (msg_rdr k s 2).bind fun a => if a.1 ≤ 65535 then (msg_wrs.go k a.1.toNat [] a.2).bind fun o => (msg_writable.f k o.1).bind fun b => if b = true then some o else none else none
theorem infoWr : (Try.prog.info? 120).map (fun i => (i.zero, i.size, i.bytes)) = some (some (.agg #[.int .i64 0, .int .i64 0, .string ⟨#[]⟩]), 3, 32) := by kernel_rfl
set_option maxHeartbeats 4000000 in
set_option maxRecDepth 100000 in
theorem msg_reader_writes.good (k g : Nat) (s : ByteArray) (r : List S120) (t : ByteArray) (w0 w : World) (hI : IsS101 w0 w g s false) (hB : Below w0.heap.size w0 w) (h : msg_wrs k s = some (r, t)) :
  Calls Try.prog 36 #[.pointer (some ⟨g, 0, none⟩)] w fun e w' => ∃ v : Value, e = .returned v ∧ Kd.R k120 120 w' w.heap.size (fun _ => True) v r ∧ IsS101 w0 w' g t false ∧ Below w0.heap.size w0 w' ∧ KeepBut w w' g none := by
 have HI := a0_ hI
 have HK := a0_ (KeepBut.refl w g none)
 have HGW := a0_ (IsS101.lt hI)
 have HB := a0_ hB
 have HW0 := a0_ hB.size
 clear hI hB
 unfold msg_wrs at h
 obtain ⟨⟨n, s1⟩, hn, h1⟩ := Option.bind_eq_some_iff.1 h
 clear h
 simp only at h1
 by_cases hmax : n ≤ 65535
 ·rw [if_pos hmax] at h1
  obtain ⟨⟨r2, t2⟩, hgo, h2⟩ := Option.bind_eq_some_iff.1 h1
  clear h1
  obtain ⟨b, hb, h3⟩ := Option.bind_eq_some_iff.1 h2
  clear h2
  cases b with
  | false => rw [if_neg z17_] at h3; cases h3
  | true =>
   rw [if_pos rfl] at h3
   simp only [Option.some.injEq, Prod.mk.injEq] at h3
   obtain ⟨rfl, rfl⟩ := h3
   have A0 := a0_ (rdr_some hn)
   have AW := a0_ hb
   have H : Aside0 (msg_wrs.go k (n.toNat - 0) [] s1 = some (r2, t2)) := ⟨hgo⟩
   clear hn hb hgo
   go_enter Try.func36, Try.ntmps36
   go_wp2_with (go_at_call 33; (with_reducible refine (msg_reader_number.calls k g s false 2 n s1 false w0 _ HI.out HB.out A0.out).mono ?_); rintro e W1 ⟨rfl, hi, hb, hk⟩; have HIn := a0_ hi; have HBn := a0_ hb; have HKn := a0_ (HK.out.trans hk (.inl rfl)); clear hi hb hk HI HB HK; have HI := HIn; have HB := HBn; have HK := HKn; clear HIn HBn HKn)
   go_loopw [3, 10] (fun v3 v10 w' => ∃ (i : Nat) (out : List S120) (sx : ByteArray), i ≤ n.toNat ∧ v10 = .int .i64 i ∧ Aside0 (msg_wrs.go k (n.toNat - i) out sx = some (r2, t2)) ∧ Aside0 (IsS101 w0 w' g sx false) ∧ Aside0 (Below w0.heap.size w0 w') ∧ Aside0 (KeepBut w w' g none) ∧ Aside0 (Kd.R k120 120 w' w.heap.size (fun k => k ≠ g) v3 out)) (fun _ v10 _ => n.toNat - (intOf v10).toNat)
   case atStart => exact ⟨0, [], s1, Nat.zero_le _, rfl, H, HI, HB, HK, ⟨Kd.R_nil _ _ _ _ _⟩⟩
   case round =>
    clear H HI HB HK
    obtain ⟨i, out, sx, hi, rfl, H, HI, HB, HK, HO⟩ := hrel
    by_cases hlt : i < n.toNat
    ·have c1 : decide ((i : Int) < n) = true := decide_eq_true z2_
     have h := H.out
     rw [show n.toNat - i = (n.toNat - (i + 1)) + 1 from z2_, msg_wrs.go] at h
     replace h := Option.bind_eq_some_iff.1 h
     obtain ⟨⟨a, s2⟩, ha, h⟩ := h
     replace h := Option.bind_eq_some_iff.1 h
     obtain ⟨⟨b, s3⟩, hb, h⟩ := h
     replace h := Option.bind_eq_some_iff.1 h
     obtain ⟨⟨d, s4, e4⟩, hd, h⟩ := h
     simp only at ha hb hd h
     by_cases hc : e4 = 0 ∧ out.length < 4398046511104
     ·rw [if_pos hc] at h
      obtain ⟨rfl, hlim⟩ := hc
      have A1 := a0_ (rdr_some ha)
      have A2 := a0_ (rdr_some hb)
      have A3 := a0_ hd
      have H' := a0_ h
      have HL := a0_ hlim
      clear h H ha hb hd hlim
      go_upto_region 5 with (first | (go_at_call 33; (with_reducible refine (msg_reader_number.calls k g sx false 1 a s2 false w0 _ HI.out HB.out A1.out).mono ?_); rintro e W2 ⟨rfl, hi, hb, hk⟩; have HIn := a0_ hi; have HBn := a0_ hb; have HKn := a0_ (HK.out.trans hk (.inl rfl)); have HOn := a0_ (Kd.R_keep HO.out hk (fun _ h => h)); clear hi hb hk HI HB HK HO; have HI := HIn; have HB := HBn; have HK := HKn; have HO := HOn; clear HIn HBn HKn HOn) | (go_at_call 33; (with_reducible refine (msg_reader_number.calls k g s2 false 1 b s3 false w0 _ HI.out HB.out A2.out).mono ?_); rintro e W3 ⟨rfl, hi, hb, hk⟩; have HIn := a0_ hi; have HBn := a0_ hb; have HKn := a0_ (HK.out.trans hk (.inl rfl)); have HOn := a0_ (Kd.R_keep HO.out hk (fun _ h => h)); clear hi hb hk HI HB HK HO; have HI := HIn; have HB := HBn; have HK := HKn; have HO := HOn; clear HIn HBn HKn HOn))
      obtain ⟨gb, hgb⟩ : ∃ gb, gb = W3.heap.size := ⟨_, rfl⟩
      have BG := a0_ (blk_new W3 (.cells #[.int .i64 a, .int .i64 b, .string ⟨#[]⟩] 120))
      have NG : Aside0 (g ≠ gb) := ⟨by have := IsS101.lt HI.out; omega⟩
      have GG : Aside0 (w.heap.size ≤ gb) := ⟨by rw [hgb]; exact keep_size HK.out⟩
      have HI4 := a0_ (IsS101.alloc HI.out (.cells #[.int .i64 a, .int .i64 b, .string ⟨#[]⟩] 120))
      have HB4 := a0_ (below_alloc HB.out (.cells #[.int .i64 a, .int .i64 b, .string ⟨#[]⟩] 120))
      have HK4 := a0_ (keep_alloc HK.out (.cells #[.int .i64 a, .int .i64 b, .string ⟨#[]⟩] 120))
      have HO4 := a0_ (Kd.R_below (Kd.R_elderB HO.out gb (by rw [hgb]; exact Nat.le_refl _)) (below_alloc (Below.refl W3.heap.size W3) (.cells #[.int .i64 a, .int .i64 b, .string ⟨#[]⟩] 120)))
      rw [← hgb] at BG ⊢
      clear hgb HI HB HK HO
      generalize W3.alloc (.cells #[.int .i64 a, .int .i64 b, .string ⟨#[]⟩] 120) = W4 at BG HI4 HB4 HK4 HO4 ⊢
      have x0 := cellS101_0 HI4.out.1
      go_upto_region 6 with (go_at_call 75; (with_reducible refine (octet_Take.calls k s3 d s4 0 _ A3.out).mono ?_); rintro e W5 ⟨rfl, hd⟩; have hb := hd.below; have HI := a0_ (IsS101.below HI4.out hb); have HB := a0_ (below_step HB4.out hb); have HK := a0_ (HK4.out.trans (KeepBut.of_below hb g none) (.inl rfl)); have HO := a0_ (Kd.R_below HO4.out hb); have BG5 := a0_ (blk_below BG.out hb); clear hd hb HI4 HB4 HK4 HO4 BG x0)
      have x0 := cellS101_0 HI.out.1
      have x1 := cellS101_1 HI.out.1
      have f0 := blk_frozen HI.out.1 0
      obtain ⟨b0, b1, b2⟩ := bc3_ BG5.out
      have f2 := blk_frozen BG5.out 2
      have ng := NG.out
      have ng2 := Ne.symm NG.out
      go_upto_region 10 with (fail)
      have BG6 := a0_ (blk_far (blk_put BG5.out 2 (.string d) (cs' := #[.int .i64 a, .int .i64 b, .string d]) rfl) (p := ⟨g, 0, none⟩) ng2 (.string s4))
      have HI6 := a0_ (IsS101.set_0 (IsS101.far HI.out (p := ⟨gb, 2, none⟩) ng (.string d)) s4)
      have HB6 := a0_ (below_set (v := .string s4) (j := 0) (below_set (v := .string d) (j := 2) HB.out (Nat.le_trans HW0.out GG.out)) (IsS101.ge HI.out))
      have HK6 := a0_ (KeepBut.set_ (keep_far HK.out (p := ⟨gb, 2, none⟩) GG.out (.string d)) 0 (.string s4))
      have HO6 := a0_ (Kd.R_far (Kd.R_far HO.out (p := ⟨gb, 2, none⟩) (fun k hk => hk.2) (.string d)) (p := ⟨g, 0, none⟩) (fun k hk => hk.1) (.string s4))
      clear x0 x1 f0 b0 b1 b2 f2 BG5 HI HB HK HO
      generalize (W5.setCell ⟨gb, 2, none⟩ (.string d)).setCell ⟨g, 0, none⟩ (.string s4) = W6 at BG6 HI6 HB6 HK6 HO6 ⊢
      obtain ⟨b0, b1, b2⟩ := bc3_ BG6.out
      go_wp2_with (at_builtin; refine Kd.R_append k120 w.heap.size rfl (.tmp 43) (.tmp 45) 49 120 (.agg #[.int .i64 0, .int .i64 0, .string ⟨#[]⟩]) 32 rfl Try.underlying49 infoWr rfl z17_ z2_ u3 out (⟨a, b, d⟩ : S120) [.int .i64 a, .int .i64 b, .string d] (fun k => k ≠ g ∧ k ≠ gb) (fun _ => False) rfl ?hx ?aP (fun _ hk => hk.elim) ?aF ?aO (Below.refl _ _) ?aS ?aL ?_; (case hx => exact z141_); (case aP => exact k120_mkM _ _ _ (⟨a, b, d⟩ : S120)); (case aF => exact fun k hk => ⟨fun e => by have := IsS101.lt HI6.out; omega, fun e => by have := blk_lt BG6.out; omega⟩); (case aO => exact HO6.out); (case aS => exact keep_size HK6.out); (case aL => have := HL.out; omega); intro v7 w7 ho _ hg _; have HI := a0_ (IsS101.grown HI6.out hg (fun e => (HO6.out.1 g e.symm).1 rfl)); have HB := a0_ (pw_below_grown HB6.out _ HB6.out.size hg (fun k hk => Nat.le_trans HW0.out (Kd.R_base HO6.out k hk))); have HK := a0_ (HK6.out.trans (KeepBut.of_grown hg g) (Kd.R_base2 HO6.out)); have HO := a0_ (Kd.R_mono ho (fun k hk => hk.1)); clear ho hg)
      go_roundw
      case measure => simp [intOf]; omega
      case rel => exact ⟨i + 1, _, s4, z2_, z30_, H', HI, HB, HK, HO⟩
     ·rw [if_neg hc] at h; cases h
    ·obtain rfl : i = n.toNat := by omega
     have c1 : decide (((n.toNat : Nat) : Int) < n) = false := decide_eq_false z2_
     have h := H.out
     rw [Nat.sub_self, msg_wrs.go] at h
     simp only [Option.some.injEq, Prod.mk.injEq] at h
     obtain ⟨rfl, rfl⟩ := h
     obtain ⟨A, c, rfl, hcc, hC⟩ := Kd.R_reads HO.out
     have HCC := a0_ hcc
     have x1 := cellS101_1 HI.out.1
     clear H hcc hC
     go_wp2_with (go_at_call 76; (with_reducible refine (msg_writable.calls k A c _ true _ (Kd.R_reads' HO.out).2.2 HCC.out AW.out).mono ?_); rintro e W8 ⟨rfl, hb⟩; have HI8 := a0_ (IsS101.below HI.out hb); have HB8 := a0_ (below_step HB.out hb); have HK8 := a0_ (HK.out.trans (KeepBut.of_below hb g none) (.inl rfl)); have HO8 := a0_ (Kd.R_below HO.out hb); clear hb HI HB HK HO x1; have y1 := cellS101_1 HI8.out.1; have f1 := blk_frozen HI8.out.1 1)
     go_ret
     exact ⟨_, rfl, Kd.R_mono (Kd.R_far HO8.out (p := ⟨g, 1, none⟩) (fun k hk => hk) (.bool false)) (fun _ _ => trivial), IsS101.set_1 HI8.out false, below_set HB8.out (IsS101.ge HI8.out), KeepBut.set_ HK8.out 1 (.bool false)⟩
 ·rw [if_neg hmax] at h1; cases h1
end Go.Proofs.Ytecfndblgefhdaa.P
