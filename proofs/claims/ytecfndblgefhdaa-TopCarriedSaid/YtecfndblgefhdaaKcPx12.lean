import Derived.Test.YtecfndblgefhdaaKcPx11
namespace Go.Proofs.Ytecfndblgefhdaa.P
open Go.RowKit Go.Proofs.YtecfndblgefhdaaW.PrintWords Go.Proofs.YtecfndblgefhdaaW.PrintLast Go.Proofs.YtecfndblgefhdaaW.PrintMore
attribute [local go_sem] max2_int min2_int max_two min_two max_three min_three max_four min_four
set_option linter.unusedVariables false
set_option linter.unusedSimpArgs false
theorem qpx120_ {p : Prop} (h : p := by exact ⟨z3_, z6_⟩) : p := h
def octet_Number.j0 : Nat → ByteArray → Int → Bool → Option (Int × ByteArray × Int)
 | 0, _, _, _ => none
 | k + 1, x0, x1, x9 => if x9 = true then (some (0, (⟨#[]⟩ : ByteArray), 1)) else (if (x0.size : Int) < x1 then (some (0, (⟨#[]⟩ : ByteArray), 2)) else (if 0 ≤ x1 then (if x1 ≤ (x0.size : Int) then ((octet_Get.f k (x0.extract 0 (x1 : Int).toNat)).bind fun bt299 => (if bt299.2 = 0 then (some (bt299.1, x0.extract (x1 : Int).toNat x0.size, 0)) else (some (0, (⟨#[]⟩ : ByteArray), bt299.2)))) else (none)) else (none)))
def octet_Number.f (k : Nat) (a0 : ByteArray) (a1 : Int) : Option (Int × ByteArray × Int) := if a1 < 1 then (octet_Number.j0 k a0 a1 true) else (octet_Number.j0 k a0 a1 (decide (a1 > 8)))
set_option maxHeartbeats 8000000 in
set_option maxRecDepth 100000 in
theorem octet_Number.calls (k : Nat) (a0 : ByteArray) (a1 : Int) (r1 : Int) (r2 : ByteArray) (r3 : Int) (w : World) (h : octet_Number.f k a0 a1 = some (r1, r2, r3)) :
  Calls Try.prog 71 #[.string a0, .int .i64 a1] w fun e w' => e = .returned (.tuple #[.int .i64 r1, .string r2, .int .i64 r3]) ∧ Drawn0 w w' := by
 have H : (if a1 < 1 then (octet_Number.j0 k a0 a1 true) else (octet_Number.j0 k a0 a1 (decide (a1 > 8)))) = some (r1, r2, r3) := h
 clear h
 have HC3 := a0_ H
 clear H
 go_enter Try.func71, Try.ntmps71
 go_upto_region 1 with (fail)
 repeat (go_quiet (fail); go_upto_region 1 with (fail))
 go_cut [9] (fun v9 wc => ∃ (kq : Nat) (x9_2 : Bool), v9 = .bool x9_2 ∧ Aside0 (octet_Number.j0 kq a0 a1 x9_2 = some (r1, r2, r3)) ∧ Aside0 (kq ≤ k) ∧ Drawn0 w wc)
 case first =>
  have H := HC3.out
  clear HC3
  by_cases c4 : a1 < 1
  ·rw [if_pos c4] at H
   have c4b0 : decide (a1 < 1) = true := decide_eq_true c4
   clear c4
   (first | rw [c4b0] | (simp only [i64_w, i32_w]; rw [c4b0]) | skip)
   have H' := a0_ H
   clear H
   go_wp2
   repeat (go_quiet (fail); try go_wp2)
   go_meet
   case rel => exact ⟨_, (true), z9_, H', ⟨z18_⟩, z10_⟩
  ·rw [if_neg c4] at H
   have c4b0 : decide (a1 < 1) = false := decide_eq_false c4
   clear c4
   (first | rw [c4b0] | (simp only [i64_w, i32_w]; rw [c4b0]) | skip)
   have H' := a0_ H
   clear H
   go_wp2
   repeat (go_quiet (fail); try go_wp2)
   go_meet
   case rel => exact ⟨_, (decide (a1 > 8)), z9_, H', ⟨z18_⟩, z10_⟩
 case rest =>
  clear HC3
  obtain ⟨kq, x9_2, rfl, HA, HJ2, ⟨mc2, rfl⟩⟩ := hcut
  cases kq with
  | zero => exact absurd HA.out (by simp [octet_Number.j0])
  | succ kj2 =>
   have H := HA.out
   clear HA
   simp only [octet_Number.j0] at H
   by_cases c5 : x9_2 = true
   ·subst c5
    rw [if_pos rfl] at H
    simp only [Option.some.injEq, Prod.mk.injEq] at H
    obtain ⟨rfl, rfl, rfl⟩ := H
    go_wp2
    repeat (go_quiet (fail); try go_wp2)
    go_ret3
    exact ⟨z9_, z10_⟩
   ·replace c5 := Bool.eq_false_iff.mpr c5
    subst c5
    rw [if_neg (show ¬ (false = true) from z17_)] at H
    by_cases c6 : (a0.size : Int) < a1
    ·rw [if_pos c6] at H
     have c6b0 : decide ((a0.size : Int) < a1) = true := decide_eq_true c6
     clear c6
     simp only [Option.some.injEq, Prod.mk.injEq] at H
     obtain ⟨rfl, rfl, rfl⟩ := H
     go_wp2
     repeat (go_quiet (fail); try go_wp2)
     go_ret3
     exact ⟨z9_, z10_⟩
    ·rw [if_neg c6] at H
     have c6b0 : decide ((a0.size : Int) < a1) = false := decide_eq_false c6
     clear c6
     by_cases c7 : 0 ≤ a1
     ·rw [if_pos c7] at H
      have c7b0 := eq_true c7
      have c7b1 : decide (0 ≤ a1) = true := decide_eq_true c7
      clear c7
      by_cases c8 : a1 ≤ (a0.size : Int)
      ·rw [if_pos c8] at H
       have c8b0 := eq_true c8
       have c8b1 : decide (a1 ≤ (a0.size : Int)) = true := decide_eq_true c8
       clear c8
       replace H := Option.bind_eq_some_iff.mp H
       obtain ⟨⟨t299, t300⟩, A90, H⟩ := H
       try dsimp only at H
       have A9 := a0_ A90
       clear A90
       by_cases c10 : t300 = 0
       ·rw [if_pos c10] at H
        have c10b0 : (t300 == 0) = true := beq_iff_eq.mpr c10
        have c10b1 : (t300 != 0) = false := bne_eq_false_iff_eq.mpr c10
        clear c10
        have c11b0 := eq_true (of_decide_eq_true z19_ : 0 ≤ a1)
        have c12b0 := eq_true (of_decide_eq_true z19_ : a1 ≤ (a0.size : Int))
        simp only [Option.some.injEq, Prod.mk.injEq] at H
        obtain ⟨rfl, rfl, rfl⟩ := H
        go_wp2_with (first | (go_at_call 73; (with_reducible refine (octet_Get.calls kj2 (a0.extract 0 (a1 : Int).toNat) t299 t300 _ A9.out).mono ?_); rintro e w' ⟨rfl, ⟨nd, rfl⟩⟩; (try first | exact ⟨rfl, _, World.drewN_drewN _ _ _⟩ | exact ⟨rfl, _, Eq.trans (World.drewN_drewN _ _ _) (congrArg (World.drewN _) (Nat.add_assoc _ _ _))⟩)))
        repeat (go_quiet (first | (go_at_call 73; (with_reducible refine (octet_Get.calls kj2 (a0.extract 0 (a1 : Int).toNat) t299 t300 _ A9.out).mono ?_); rintro e w' ⟨rfl, ⟨nd, rfl⟩⟩; (try first | exact ⟨rfl, _, World.drewN_drewN _ _ _⟩ | exact ⟨rfl, _, Eq.trans (World.drewN_drewN _ _ _) (congrArg (World.drewN _) (Nat.add_assoc _ _ _))⟩))); try go_wp2_with (first | (go_at_call 73; (with_reducible refine (octet_Get.calls kj2 (a0.extract 0 (a1 : Int).toNat) t299 t300 _ A9.out).mono ?_); rintro e w' ⟨rfl, ⟨nd, rfl⟩⟩; (try first | exact ⟨rfl, _, World.drewN_drewN _ _ _⟩ | exact ⟨rfl, _, Eq.trans (World.drewN_drewN _ _ _) (congrArg (World.drewN _) (Nat.add_assoc _ _ _))⟩))))
        go_ret3
        exact ⟨z9_, z10_⟩
       ·rw [if_neg c10] at H
        have c10b0 : (t300 == 0) = false := beq_eq_false_iff_ne.mpr c10
        have c10b1 : (t300 != 0) = true := bne_iff_ne.mpr c10
        simp only [Option.some.injEq, Prod.mk.injEq] at H
        obtain ⟨rfl, rfl, rfl⟩ := H
        go_wp2_with (first | (go_at_call 73; (with_reducible refine (octet_Get.calls kj2 (a0.extract 0 (a1 : Int).toNat) t299 t300 _ A9.out).mono ?_); rintro e w' ⟨rfl, ⟨nd, rfl⟩⟩; (try first | exact ⟨rfl, _, World.drewN_drewN _ _ _⟩ | exact ⟨rfl, _, Eq.trans (World.drewN_drewN _ _ _) (congrArg (World.drewN _) (Nat.add_assoc _ _ _))⟩)))
        repeat (go_quiet (first | (go_at_call 73; (with_reducible refine (octet_Get.calls kj2 (a0.extract 0 (a1 : Int).toNat) t299 t300 _ A9.out).mono ?_); rintro e w' ⟨rfl, ⟨nd, rfl⟩⟩; (try first | exact ⟨rfl, _, World.drewN_drewN _ _ _⟩ | exact ⟨rfl, _, Eq.trans (World.drewN_drewN _ _ _) (congrArg (World.drewN _) (Nat.add_assoc _ _ _))⟩))); try go_wp2_with (first | (go_at_call 73; (with_reducible refine (octet_Get.calls kj2 (a0.extract 0 (a1 : Int).toNat) t299 t300 _ A9.out).mono ?_); rintro e w' ⟨rfl, ⟨nd, rfl⟩⟩; (try first | exact ⟨rfl, _, World.drewN_drewN _ _ _⟩ | exact ⟨rfl, _, Eq.trans (World.drewN_drewN _ _ _) (congrArg (World.drewN _) (Nat.add_assoc _ _ _))⟩))))
        go_ret3
        exact ⟨z9_, z10_⟩
      ·rw [if_neg c8] at H
       exact absurd H (by simp)
     ·rw [if_neg c7] at H
      exact absurd H (by simp)
def sum_Right.f (a0 : ByteArray) : Option (Bool) := if (wrap64 ((a0.size : Int) - 4)) < 0 then (some false) else (if 0 ≤ (wrap64 ((a0.size : Int) - 4)) then (if (wrap64 ((a0.size : Int) - 4)) < (a0.size : Int) then (if 0 ≤ (wrap64 ((wrap64 ((a0.size : Int) - 4)) + 1)) then (if (wrap64 ((wrap64 ((a0.size : Int) - 4)) + 1)) < (a0.size : Int) then (if 0 ≤ (wrap64 ((wrap64 ((a0.size : Int) - 4)) + 2)) then (if (wrap64 ((wrap64 ((a0.size : Int) - 4)) + 2)) < (a0.size : Int) then (if 0 ≤ (wrap64 ((wrap64 ((a0.size : Int) - 4)) + 3)) then (if (wrap64 ((wrap64 ((a0.size : Int) - 4)) + 3)) < (a0.size : Int) then (if (wrap64 ((a0.size : Int) - 4)) ≤ (a0.size : Int) then ((sum_Of.f (a0.extract 0 ((wrap64 ((a0.size : Int) - 4)) : Int).toNat)).bind fun t301 => (some ((Go.bits .or .u32 (Go.bits .or .u32 (Go.bits .or .u32 ((((bt a0 (wrap64 ((a0.size : Int) - 4))) % 4294967296) * 16777216) % 4294967296) ((((bt a0 (wrap64 ((wrap64 ((a0.size : Int) - 4)) + 1))) % 4294967296) * 65536) % 4294967296)) ((((bt a0 (wrap64 ((wrap64 ((a0.size : Int) - 4)) + 2))) % 4294967296) * 256) % 4294967296)) ((bt a0 (wrap64 ((wrap64 ((a0.size : Int) - 4)) + 3))) % 4294967296)) == t301))) else (none)) else (none)) else (none)) else (none)) else (none)) else (none)) else (none)) else (none)) else (none))
set_option maxHeartbeats 8000000 in
set_option maxRecDepth 100000 in
theorem sum_Right.calls (a0 : ByteArray) (r : Bool) (w : World) (h : sum_Right.f a0 = some r) :
  Calls Try.prog 113 #[.string a0] w fun e w' => e = .returned (.bool r) ∧ Below w.heap.size w w' := by
 have HB := a0_ (Below.refl w.heap.size w)
 have H : (if (wrap64 ((a0.size : Int) - 4)) < 0 then (some false) else (if 0 ≤ (wrap64 ((a0.size : Int) - 4)) then (if (wrap64 ((a0.size : Int) - 4)) < (a0.size : Int) then (if 0 ≤ (wrap64 ((wrap64 ((a0.size : Int) - 4)) + 1)) then (if (wrap64 ((wrap64 ((a0.size : Int) - 4)) + 1)) < (a0.size : Int) then (if 0 ≤ (wrap64 ((wrap64 ((a0.size : Int) - 4)) + 2)) then (if (wrap64 ((wrap64 ((a0.size : Int) - 4)) + 2)) < (a0.size : Int) then (if 0 ≤ (wrap64 ((wrap64 ((a0.size : Int) - 4)) + 3)) then (if (wrap64 ((wrap64 ((a0.size : Int) - 4)) + 3)) < (a0.size : Int) then (if (wrap64 ((a0.size : Int) - 4)) ≤ (a0.size : Int) then ((sum_Of.f (a0.extract 0 ((wrap64 ((a0.size : Int) - 4)) : Int).toNat)).bind fun t301 => (some ((Go.bits .or .u32 (Go.bits .or .u32 (Go.bits .or .u32 ((((bt a0 (wrap64 ((a0.size : Int) - 4))) % 4294967296) * 16777216) % 4294967296) ((((bt a0 (wrap64 ((wrap64 ((a0.size : Int) - 4)) + 1))) % 4294967296) * 65536) % 4294967296)) ((((bt a0 (wrap64 ((wrap64 ((a0.size : Int) - 4)) + 2))) % 4294967296) * 256) % 4294967296)) ((bt a0 (wrap64 ((wrap64 ((a0.size : Int) - 4)) + 3))) % 4294967296)) == t301))) else (none)) else (none)) else (none)) else (none)) else (none)) else (none)) else (none)) else (none)) else (none))) = some r := h
 clear h
 by_cases c2 : (wrap64 ((a0.size : Int) - 4)) < 0
 ·rw [if_pos c2] at H
  have c2b0 : decide ((wrap64 ((a0.size : Int) - 4)) < 0) = true := decide_eq_true c2
  clear c2
  obtain rfl := Option.some.inj H
  go_enter Try.func113, Try.ntmps113
  go_wp2
  repeat (go_quiet (fail); try go_wp2)
  go_ret
  exact qpx120_
 ·rw [if_neg c2] at H
  have c2b0 : decide ((wrap64 ((a0.size : Int) - 4)) < 0) = false := decide_eq_false c2
  clear c2
  obtain ⟨ji3, hji3⟩ : ∃ j_ : Int, (wrap64 ((a0.size : Int) - 4)) = j_ := ⟨_, rfl⟩
  replace H : (if 0 ≤ (ji3) then (if (ji3) < (a0.size : Int) then (if 0 ≤ (wrap64 ((ji3) + 1)) then (if (wrap64 ((ji3) + 1)) < (a0.size : Int) then (if 0 ≤ (wrap64 ((ji3) + 2)) then (if (wrap64 ((ji3) + 2)) < (a0.size : Int) then (if 0 ≤ (wrap64 ((ji3) + 3)) then (if (wrap64 ((ji3) + 3)) < (a0.size : Int) then (if (ji3) ≤ (a0.size : Int) then ((sum_Of.f (a0.extract 0 ((ji3) : Int).toNat)).bind fun t301 => (some ((Go.bits .or .u32 (Go.bits .or .u32 (Go.bits .or .u32 ((((bt a0 (ji3)) % 4294967296) * 16777216) % 4294967296) ((((bt a0 (wrap64 ((ji3) + 1))) % 4294967296) * 65536) % 4294967296)) ((((bt a0 (wrap64 ((ji3) + 2))) % 4294967296) * 256) % 4294967296)) ((bt a0 (wrap64 ((ji3) + 3))) % 4294967296)) == t301))) else (none)) else (none)) else (none)) else (none)) else (none)) else (none)) else (none)) else (none)) else (none)) = some r := by first | (rw [hji3] at H; exact H) | (simp only [hji3] at H ⊢; exact H)
  (try rw [hji3] at c2b0)
  have hji3w : (IntKind.i64.wrap ((a0.size : Int) - 4)) = ji3 := (i64_w _).trans hji3
  by_cases c4 : 0 ≤ (ji3)
  ·rw [if_pos c4] at H
   have c4b0 : decide (0 ≤ (ji3)) = true := decide_eq_true c4
   clear c4
   by_cases c5 : (ji3) < (a0.size : Int)
   ·rw [if_pos c5] at H
    have c5b0 : decide ((ji3) < (a0.size : Int)) = true := decide_eq_true c5
    clear c5
    obtain ⟨ji7, hji7⟩ : ∃ j_ : Int, (wrap64 ((ji3) + 1)) = j_ := ⟨_, rfl⟩
    replace H : (if 0 ≤ (ji7) then (if (ji7) < (a0.size : Int) then (if 0 ≤ (wrap64 ((ji3) + 2)) then (if (wrap64 ((ji3) + 2)) < (a0.size : Int) then (if 0 ≤ (wrap64 ((ji3) + 3)) then (if (wrap64 ((ji3) + 3)) < (a0.size : Int) then (if (ji3) ≤ (a0.size : Int) then ((sum_Of.f (a0.extract 0 ((ji3) : Int).toNat)).bind fun t301 => (some ((Go.bits .or .u32 (Go.bits .or .u32 (Go.bits .or .u32 ((((bt a0 (ji3)) % 4294967296) * 16777216) % 4294967296) ((((bt a0 (ji7)) % 4294967296) * 65536) % 4294967296)) ((((bt a0 (wrap64 ((ji3) + 2))) % 4294967296) * 256) % 4294967296)) ((bt a0 (wrap64 ((ji3) + 3))) % 4294967296)) == t301))) else (none)) else (none)) else (none)) else (none)) else (none)) else (none)) else (none)) = some r := by first | (rw [hji7] at H; exact H) | (simp only [hji7] at H ⊢; exact H)
    have hji7w : (IntKind.i64.wrap ((ji3) + 1)) = ji7 := (i64_w _).trans hji7
    by_cases c8 : 0 ≤ (ji7)
    ·rw [if_pos c8] at H
     have c8b0 : decide (0 ≤ (ji7)) = true := decide_eq_true c8
     clear c8
     by_cases c9 : (ji7) < (a0.size : Int)
     ·rw [if_pos c9] at H
      have c9b0 : decide ((ji7) < (a0.size : Int)) = true := decide_eq_true c9
      clear c9
      obtain ⟨ji11, hji11⟩ : ∃ j_ : Int, (wrap64 ((ji3) + 2)) = j_ := ⟨_, rfl⟩
      replace H : (if 0 ≤ (ji11) then (if (ji11) < (a0.size : Int) then (if 0 ≤ (wrap64 ((ji3) + 3)) then (if (wrap64 ((ji3) + 3)) < (a0.size : Int) then (if (ji3) ≤ (a0.size : Int) then ((sum_Of.f (a0.extract 0 ((ji3) : Int).toNat)).bind fun t301 => (some ((Go.bits .or .u32 (Go.bits .or .u32 (Go.bits .or .u32 ((((bt a0 (ji3)) % 4294967296) * 16777216) % 4294967296) ((((bt a0 (ji7)) % 4294967296) * 65536) % 4294967296)) ((((bt a0 (ji11)) % 4294967296) * 256) % 4294967296)) ((bt a0 (wrap64 ((ji3) + 3))) % 4294967296)) == t301))) else (none)) else (none)) else (none)) else (none)) else (none)) = some r := by first | (rw [hji11] at H; exact H) | (simp only [hji11] at H ⊢; exact H)
      have hji11w : (IntKind.i64.wrap ((ji3) + 2)) = ji11 := (i64_w _).trans hji11
      by_cases c12 : 0 ≤ (ji11)
      ·rw [if_pos c12] at H
       have c12b0 : decide (0 ≤ (ji11)) = true := decide_eq_true c12
       clear c12
       by_cases c13 : (ji11) < (a0.size : Int)
       ·rw [if_pos c13] at H
        have c13b0 : decide ((ji11) < (a0.size : Int)) = true := decide_eq_true c13
        clear c13
        obtain ⟨ji15, hji15⟩ : ∃ j_ : Int, (wrap64 ((ji3) + 3)) = j_ := ⟨_, rfl⟩
        replace H : (if 0 ≤ (ji15) then (if (ji15) < (a0.size : Int) then (if (ji3) ≤ (a0.size : Int) then ((sum_Of.f (a0.extract 0 ((ji3) : Int).toNat)).bind fun t301 => (some ((Go.bits .or .u32 (Go.bits .or .u32 (Go.bits .or .u32 ((((bt a0 (ji3)) % 4294967296) * 16777216) % 4294967296) ((((bt a0 (ji7)) % 4294967296) * 65536) % 4294967296)) ((((bt a0 (ji11)) % 4294967296) * 256) % 4294967296)) ((bt a0 (ji15)) % 4294967296)) == t301))) else (none)) else (none)) else (none)) = some r := by first | (rw [hji15] at H; exact H) | (simp only [hji15] at H ⊢; exact H)
        have hji15w : (IntKind.i64.wrap ((ji3) + 3)) = ji15 := (i64_w _).trans hji15
        by_cases c16 : 0 ≤ (ji15)
        ·rw [if_pos c16] at H
         have c16b0 : decide (0 ≤ (ji15)) = true := decide_eq_true c16
         clear c16
         by_cases c17 : (ji15) < (a0.size : Int)
         ·rw [if_pos c17] at H
          have c17b0 : decide ((ji15) < (a0.size : Int)) = true := decide_eq_true c17
          clear c17
          have c19b0 := eq_true (of_decide_eq_true z19_ : 0 ≤ (ji3))
          by_cases c20 : (ji3) ≤ (a0.size : Int)
          ·rw [if_pos c20] at H
           have c20b0 := eq_true c20
           have c20b1 : decide ((ji3) ≤ (a0.size : Int)) = true := decide_eq_true c20
           clear c20
           replace H := Option.bind_eq_some_iff.mp H
           obtain ⟨t301, A210, H⟩ := H
           try dsimp only at H
           have A21 := a0_ A210
           clear A210
           obtain rfl := Option.some.inj H
           have p6 : 0 ≤ ((ji3) : Int) := of_decide_eq_true z19_
           have q6 : (ji3) < (a0.size : Int) := of_decide_eq_true z19_
           have hx6 := bt_at a0 (ji3)
           replace p6 := eq_true p6
           replace q6 := eq_true q6
           have p10 : 0 ≤ ((ji7) : Int) := of_decide_eq_true z19_
           have q10 : (ji7) < (a0.size : Int) := of_decide_eq_true z19_
           have hx10 := bt_at a0 (ji7)
           replace p10 := eq_true p10
           replace q10 := eq_true q10
           have p14 : 0 ≤ ((ji11) : Int) := of_decide_eq_true z19_
           have q14 : (ji11) < (a0.size : Int) := of_decide_eq_true z19_
           have hx14 := bt_at a0 (ji11)
           replace p14 := eq_true p14
           replace q14 := eq_true q14
           have p18 : 0 ≤ ((ji15) : Int) := of_decide_eq_true z19_
           have q18 : (ji15) < (a0.size : Int) := of_decide_eq_true z19_
           have hx18 := bt_at a0 (ji15)
           replace p18 := eq_true p18
           replace q18 := eq_true q18
           go_enter Try.func113, Try.ntmps113
           go_wp2_with (first | (go_at_call 112; (with_reducible refine (sum_Of.calls (a0.extract 0 ((ji3) : Int).toNat) t301 _ A21.out).mono ?_); rintro e w22 ⟨rfl, hb⟩; replace HB := a0_ (below_step z6_ hb); (try clear hb); (try clear hb2); (try clear hk); (try clear hi)))
           repeat (go_quiet (first | (go_at_call 112; (with_reducible refine (sum_Of.calls (a0.extract 0 ((ji3) : Int).toNat) t301 _ A21.out).mono ?_); rintro e w22 ⟨rfl, hb⟩; replace HB := a0_ (below_step z6_ hb); (try clear hb); (try clear hb2); (try clear hk); (try clear hi))); try go_wp2_with (first | (go_at_call 112; (with_reducible refine (sum_Of.calls (a0.extract 0 ((ji3) : Int).toNat) t301 _ A21.out).mono ?_); rintro e w22 ⟨rfl, hb⟩; replace HB := a0_ (below_step z6_ hb); (try clear hb); (try clear hb2); (try clear hk); (try clear hi))))
           go_ret
           exact ⟨by first | rfl | (simp [errW_none, errW_some] <;> rfl) | (simp only [← hji3, ← hji7, ← hji11, ← hji15]; first | rfl | (simp [errW_none, errW_some] <;> rfl)) | (simp [*, errW_none, errW_some] <;> rfl), z6_⟩
          ·rw [if_neg c20] at H
           exact absurd H (by simp)
         ·rw [if_neg c17] at H
          exact absurd H (by simp)
        ·rw [if_neg c16] at H
         exact absurd H (by simp)
       ·rw [if_neg c13] at H
        exact absurd H (by simp)
      ·rw [if_neg c12] at H
       exact absurd H (by simp)
     ·rw [if_neg c9] at H
      exact absurd H (by simp)
    ·rw [if_neg c8] at H
     exact absurd H (by simp)
   ·rw [if_neg c5] at H
    exact absurd H (by simp)
  ·rw [if_neg c4] at H
   exact absurd H (by simp)
def frame_Open.f (k : Nat) (a0 : ByteArray) : Option (Int × ByteArray × Int) := if (a0.size : Int) < 7 then (some (0, (⟨#[]⟩ : ByteArray), 2)) else (if 1 ≤ 3 then (if 3 ≤ (a0.size : Int) then ((octet_Get.f k (a0.extract 1 3)).bind fun bt302 => (if bt302.1 > 4096 then (some (0, (⟨#[]⟩ : ByteArray), 3)) else (if (a0.size : Int) < (wrap64 (7 + bt302.1)) then (some (0, (⟨#[]⟩ : ByteArray), 2)) else (if (a0.size : Int) > (wrap64 (7 + bt302.1)) then (some (0, (⟨#[]⟩ : ByteArray), 3)) else ((sum_Right.f a0).bind fun t304 => (if t304 = true then (if 0 < (a0.size : Int) then (if 3 ≤ (wrap64 (3 + bt302.1)) then (if (wrap64 (3 + bt302.1)) ≤ (a0.size : Int) then (some (wrap64 (bt a0 0), a0.extract 3 ((wrap64 (3 + bt302.1)) : Int).toNat, 0)) else (none)) else (none)) else (none)) else (some (0, (⟨#[]⟩ : ByteArray), 4)))))))) else (none)) else (none))
set_option maxHeartbeats 8000000 in
set_option maxRecDepth 100000 in
theorem frame_Open.calls (k : Nat) (a0 : ByteArray) (r1 : Int) (r2 : ByteArray) (r3 : Int) (w : World) (h : frame_Open.f k a0 = some (r1, r2, r3)) :
  Calls Try.prog 99 #[.string a0] w fun e w' => e = .returned (.tuple #[.int .i64 r1, .string r2, .int .i64 r3]) ∧ Below w.heap.size w w' := by
 have HB := a0_ (Below.refl w.heap.size w)
 have H : (if (a0.size : Int) < 7 then (some (0, (⟨#[]⟩ : ByteArray), 2)) else (if 1 ≤ 3 then (if 3 ≤ (a0.size : Int) then ((octet_Get.f k (a0.extract 1 3)).bind fun bt302 => (if bt302.1 > 4096 then (some (0, (⟨#[]⟩ : ByteArray), 3)) else (if (a0.size : Int) < (wrap64 (7 + bt302.1)) then (some (0, (⟨#[]⟩ : ByteArray), 2)) else (if (a0.size : Int) > (wrap64 (7 + bt302.1)) then (some (0, (⟨#[]⟩ : ByteArray), 3)) else ((sum_Right.f a0).bind fun t304 => (if t304 = true then (if 0 < (a0.size : Int) then (if 3 ≤ (wrap64 (3 + bt302.1)) then (if (wrap64 (3 + bt302.1)) ≤ (a0.size : Int) then (some (wrap64 (bt a0 0), a0.extract 3 ((wrap64 (3 + bt302.1)) : Int).toNat, 0)) else (none)) else (none)) else (none)) else (some (0, (⟨#[]⟩ : ByteArray), 4)))))))) else (none)) else (none))) = some (r1, r2, r3) := h
 clear h
 by_cases c2 : (a0.size : Int) < 7
 ·rw [if_pos c2] at H
  have c2b0 : decide ((a0.size : Int) < 7) = true := decide_eq_true c2
  have c2b1 : decide (a0.size < 7) = true := decide_eq_true z2_
  clear c2
  simp only [Option.some.injEq, Prod.mk.injEq] at H
  obtain ⟨rfl, rfl, rfl⟩ := H
  go_enter Try.func99, Try.ntmps99
  go_wp2
  repeat (go_quiet (fail); try go_wp2)
  go_ret3
  exact qpx120_
 ·rw [if_neg c2] at H
  have c2b0 : decide ((a0.size : Int) < 7) = false := decide_eq_false c2
  have c2b1 : decide (a0.size < 7) = false := decide_eq_false z2_
  clear c2
  by_cases c3 : 1 ≤ 3
  ·rw [if_pos c3] at H
   have c3b0 := eq_true c3
   have c3b1 : decide (1 ≤ 3) = true := decide_eq_true c3
   clear c3
   by_cases c4 : 3 ≤ (a0.size : Int)
   ·rw [if_pos c4] at H
    have c4b0 := eq_true c4
    have c4b1 : decide (3 ≤ (a0.size : Int)) = true := decide_eq_true c4
    clear c4
    replace H := Option.bind_eq_some_iff.mp H
    obtain ⟨⟨t302, t303⟩, A50, H⟩ := H
    try dsimp only at H
    have A5 := a0_ A50
    clear A50
    by_cases c6 : t302 > 4096
    ·rw [if_pos c6] at H
     have c6b0 : decide (4096 < t302) = true := decide_eq_true c6
     clear c6
     simp only [Option.some.injEq, Prod.mk.injEq] at H
     obtain ⟨rfl, rfl, rfl⟩ := H
     go_enter Try.func99, Try.ntmps99
     go_wp2_with (first | (go_at_call 73; (with_reducible refine (octet_Get.calls k (a0.extract 1 3) t302 t303 _ A5.out).mono ?_); rintro e w' ⟨rfl, ⟨nd, rfl⟩⟩; (try first | exact ⟨rfl, _, World.drewN_drewN _ _ _⟩ | exact ⟨rfl, _, Eq.trans (World.drewN_drewN _ _ _) (congrArg (World.drewN _) (Nat.add_assoc _ _ _))⟩)))
     repeat (go_quiet (first | (go_at_call 73; (with_reducible refine (octet_Get.calls k (a0.extract 1 3) t302 t303 _ A5.out).mono ?_); rintro e w' ⟨rfl, ⟨nd, rfl⟩⟩; (try first | exact ⟨rfl, _, World.drewN_drewN _ _ _⟩ | exact ⟨rfl, _, Eq.trans (World.drewN_drewN _ _ _) (congrArg (World.drewN _) (Nat.add_assoc _ _ _))⟩))); try go_wp2_with (first | (go_at_call 73; (with_reducible refine (octet_Get.calls k (a0.extract 1 3) t302 t303 _ A5.out).mono ?_); rintro e w' ⟨rfl, ⟨nd, rfl⟩⟩; (try first | exact ⟨rfl, _, World.drewN_drewN _ _ _⟩ | exact ⟨rfl, _, Eq.trans (World.drewN_drewN _ _ _) (congrArg (World.drewN _) (Nat.add_assoc _ _ _))⟩))))
     go_ret3
     exact qpx120_
    ·rw [if_neg c6] at H
     have c6b0 : decide (4096 < t302) = false := decide_eq_false c6
     clear c6
     by_cases c7 : (a0.size : Int) < (wrap64 (7 + t302))
     ·rw [if_pos c7] at H
      have c7b0 : decide ((a0.size : Int) < (wrap64 (7 + t302))) = true := decide_eq_true c7
      clear c7
      simp only [Option.some.injEq, Prod.mk.injEq] at H
      obtain ⟨rfl, rfl, rfl⟩ := H
      go_enter Try.func99, Try.ntmps99
      go_wp2_with (first | (go_at_call 73; (with_reducible refine (octet_Get.calls k (a0.extract 1 3) t302 t303 _ A5.out).mono ?_); rintro e w' ⟨rfl, ⟨nd, rfl⟩⟩; (try first | exact ⟨rfl, _, World.drewN_drewN _ _ _⟩ | exact ⟨rfl, _, Eq.trans (World.drewN_drewN _ _ _) (congrArg (World.drewN _) (Nat.add_assoc _ _ _))⟩)))
      repeat (go_quiet (first | (go_at_call 73; (with_reducible refine (octet_Get.calls k (a0.extract 1 3) t302 t303 _ A5.out).mono ?_); rintro e w' ⟨rfl, ⟨nd, rfl⟩⟩; (try first | exact ⟨rfl, _, World.drewN_drewN _ _ _⟩ | exact ⟨rfl, _, Eq.trans (World.drewN_drewN _ _ _) (congrArg (World.drewN _) (Nat.add_assoc _ _ _))⟩))); try go_wp2_with (first | (go_at_call 73; (with_reducible refine (octet_Get.calls k (a0.extract 1 3) t302 t303 _ A5.out).mono ?_); rintro e w' ⟨rfl, ⟨nd, rfl⟩⟩; (try first | exact ⟨rfl, _, World.drewN_drewN _ _ _⟩ | exact ⟨rfl, _, Eq.trans (World.drewN_drewN _ _ _) (congrArg (World.drewN _) (Nat.add_assoc _ _ _))⟩))))
      go_ret3
      exact qpx120_
     ·rw [if_neg c7] at H
      have c7b0 : decide ((a0.size : Int) < (wrap64 (7 + t302))) = false := decide_eq_false c7
      clear c7
      by_cases c8 : (a0.size : Int) > (wrap64 (7 + t302))
      ·rw [if_pos c8] at H
       have c8b0 : decide ((wrap64 (7 + t302)) < (a0.size : Int)) = true := decide_eq_true c8
       clear c8
       simp only [Option.some.injEq, Prod.mk.injEq] at H
       obtain ⟨rfl, rfl, rfl⟩ := H
       go_enter Try.func99, Try.ntmps99
       go_wp2_with (first | (go_at_call 73; (with_reducible refine (octet_Get.calls k (a0.extract 1 3) t302 t303 _ A5.out).mono ?_); rintro e w' ⟨rfl, ⟨nd, rfl⟩⟩; (try first | exact ⟨rfl, _, World.drewN_drewN _ _ _⟩ | exact ⟨rfl, _, Eq.trans (World.drewN_drewN _ _ _) (congrArg (World.drewN _) (Nat.add_assoc _ _ _))⟩)))
       repeat (go_quiet (first | (go_at_call 73; (with_reducible refine (octet_Get.calls k (a0.extract 1 3) t302 t303 _ A5.out).mono ?_); rintro e w' ⟨rfl, ⟨nd, rfl⟩⟩; (try first | exact ⟨rfl, _, World.drewN_drewN _ _ _⟩ | exact ⟨rfl, _, Eq.trans (World.drewN_drewN _ _ _) (congrArg (World.drewN _) (Nat.add_assoc _ _ _))⟩))); try go_wp2_with (first | (go_at_call 73; (with_reducible refine (octet_Get.calls k (a0.extract 1 3) t302 t303 _ A5.out).mono ?_); rintro e w' ⟨rfl, ⟨nd, rfl⟩⟩; (try first | exact ⟨rfl, _, World.drewN_drewN _ _ _⟩ | exact ⟨rfl, _, Eq.trans (World.drewN_drewN _ _ _) (congrArg (World.drewN _) (Nat.add_assoc _ _ _))⟩))))
       go_ret3
       exact qpx120_
      ·rw [if_neg c8] at H
       have c8b0 : decide ((wrap64 (7 + t302)) < (a0.size : Int)) = false := decide_eq_false c8
       clear c8
       replace H := Option.bind_eq_some_iff.mp H
       obtain ⟨t304, A90, H⟩ := H
       try dsimp only at H
       have A9 := a0_ A90
       clear A90
       by_cases c10 : t304 = true
       ·subst c10
        rw [if_pos rfl] at H
        by_cases c11 : 0 < (a0.size : Int)
        ·rw [if_pos c11] at H
         have c11b0 : decide (0 < (a0.size : Int)) = true := decide_eq_true c11
         have c11b1 : decide (0 < a0.size) = true := decide_eq_true z2_
         clear c11
         by_cases c13 : 3 ≤ (wrap64 (3 + t302))
         ·rw [if_pos c13] at H
          have c13b0 := eq_true c13
          have c13b1 : decide (3 ≤ (wrap64 (3 + t302))) = true := decide_eq_true c13
          by_cases c14 : (wrap64 (3 + t302)) ≤ (a0.size : Int)
          ·rw [if_pos c14] at H
           have c14b0 := eq_true c14
           have c14b1 : decide ((wrap64 (3 + t302)) ≤ (a0.size : Int)) = true := decide_eq_true c14
           simp only [Option.some.injEq, Prod.mk.injEq] at H
           obtain ⟨rfl, rfl, rfl⟩ := H
           go_enter Try.func99, Try.ntmps99
           go_wp2_with (first | (go_at_call 73; (with_reducible refine (octet_Get.calls k (a0.extract 1 3) t302 t303 _ A5.out).mono ?_); rintro e w' ⟨rfl, ⟨nd, rfl⟩⟩; (try first | exact ⟨rfl, _, World.drewN_drewN _ _ _⟩ | exact ⟨rfl, _, Eq.trans (World.drewN_drewN _ _ _) (congrArg (World.drewN _) (Nat.add_assoc _ _ _))⟩)) | (go_at_call 113; (with_reducible refine (sum_Right.calls a0 true _ A9.out).mono ?_); rintro e w15 ⟨rfl, hb⟩; replace HB := a0_ (below_step z6_ hb); (try clear hb); (try clear hb2); (try clear hk); (try clear hi); have p12 : 0 ≤ (0 : Int) := z2_; have q12 : 0 < a0.size := (by have : (0 : Int) < (a0.size : Int) := of_decide_eq_true z19_; omega); have hx12 : ∀ h : 0 < a0.size, ((a0[0]'h).toNat : Int) = bt a0 0 := bt_at a0 0; clear p12; have qi12 : (0 < (a0.size : Int)) = True := eq_true (of_decide_eq_true z19_); replace q12 := eq_true q12))
           repeat (go_quiet (first | (go_at_call 73; (with_reducible refine (octet_Get.calls k (a0.extract 1 3) t302 t303 _ A5.out).mono ?_); rintro e w' ⟨rfl, ⟨nd, rfl⟩⟩; (try first | exact ⟨rfl, _, World.drewN_drewN _ _ _⟩ | exact ⟨rfl, _, Eq.trans (World.drewN_drewN _ _ _) (congrArg (World.drewN _) (Nat.add_assoc _ _ _))⟩)) | (go_at_call 113; (with_reducible refine (sum_Right.calls a0 true _ A9.out).mono ?_); rintro e w15 ⟨rfl, hb⟩; replace HB := a0_ (below_step z6_ hb); (try clear hb); (try clear hb2); (try clear hk); (try clear hi); have p12 : 0 ≤ (0 : Int) := z2_; have q12 : 0 < a0.size := (by have : (0 : Int) < (a0.size : Int) := of_decide_eq_true z19_; omega); have hx12 : ∀ h : 0 < a0.size, ((a0[0]'h).toNat : Int) = bt a0 0 := bt_at a0 0; clear p12; have qi12 : (0 < (a0.size : Int)) = True := eq_true (of_decide_eq_true z19_); replace q12 := eq_true q12)); try go_wp2_with (first | (go_at_call 73; (with_reducible refine (octet_Get.calls k (a0.extract 1 3) t302 t303 _ A5.out).mono ?_); rintro e w' ⟨rfl, ⟨nd, rfl⟩⟩; (try first | exact ⟨rfl, _, World.drewN_drewN _ _ _⟩ | exact ⟨rfl, _, Eq.trans (World.drewN_drewN _ _ _) (congrArg (World.drewN _) (Nat.add_assoc _ _ _))⟩)) | (go_at_call 113; (with_reducible refine (sum_Right.calls a0 true _ A9.out).mono ?_); rintro e w15 ⟨rfl, hb⟩; replace HB := a0_ (below_step z6_ hb); (try clear hb); (try clear hb2); (try clear hk); (try clear hi); have p12 : 0 ≤ (0 : Int) := z2_; have q12 : 0 < a0.size := (by have : (0 : Int) < (a0.size : Int) := of_decide_eq_true z19_; omega); have hx12 : ∀ h : 0 < a0.size, ((a0[0]'h).toNat : Int) = bt a0 0 := bt_at a0 0; clear p12; have qi12 : (0 < (a0.size : Int)) = True := eq_true (of_decide_eq_true z19_); replace q12 := eq_true q12)))
           go_ret3
           exact qpx120_
          ·rw [if_neg c14] at H
           exact absurd H (by simp)
         ·rw [if_neg c13] at H
          exact absurd H (by simp)
        ·rw [if_neg c11] at H
         exact absurd H (by simp)
       ·replace c10 := Bool.eq_false_iff.mpr c10
        subst c10
        rw [if_neg (show ¬ (false = true) from z17_)] at H
        simp only [Option.some.injEq, Prod.mk.injEq] at H
        obtain ⟨rfl, rfl, rfl⟩ := H
        go_enter Try.func99, Try.ntmps99
        go_wp2_with (first | (go_at_call 73; (with_reducible refine (octet_Get.calls k (a0.extract 1 3) t302 t303 _ A5.out).mono ?_); rintro e w' ⟨rfl, ⟨nd, rfl⟩⟩; (try first | exact ⟨rfl, _, World.drewN_drewN _ _ _⟩ | exact ⟨rfl, _, Eq.trans (World.drewN_drewN _ _ _) (congrArg (World.drewN _) (Nat.add_assoc _ _ _))⟩)) | (go_at_call 113; (with_reducible refine (sum_Right.calls a0 false _ A9.out).mono ?_); rintro e w16 ⟨rfl, hb⟩; replace HB := a0_ (below_step z6_ hb); (try clear hb); (try clear hb2); (try clear hk); (try clear hi)))
        repeat (go_quiet (first | (go_at_call 73; (with_reducible refine (octet_Get.calls k (a0.extract 1 3) t302 t303 _ A5.out).mono ?_); rintro e w' ⟨rfl, ⟨nd, rfl⟩⟩; (try first | exact ⟨rfl, _, World.drewN_drewN _ _ _⟩ | exact ⟨rfl, _, Eq.trans (World.drewN_drewN _ _ _) (congrArg (World.drewN _) (Nat.add_assoc _ _ _))⟩)) | (go_at_call 113; (with_reducible refine (sum_Right.calls a0 false _ A9.out).mono ?_); rintro e w16 ⟨rfl, hb⟩; replace HB := a0_ (below_step z6_ hb); (try clear hb); (try clear hb2); (try clear hk); (try clear hi))); try go_wp2_with (first | (go_at_call 73; (with_reducible refine (octet_Get.calls k (a0.extract 1 3) t302 t303 _ A5.out).mono ?_); rintro e w' ⟨rfl, ⟨nd, rfl⟩⟩; (try first | exact ⟨rfl, _, World.drewN_drewN _ _ _⟩ | exact ⟨rfl, _, Eq.trans (World.drewN_drewN _ _ _) (congrArg (World.drewN _) (Nat.add_assoc _ _ _))⟩)) | (go_at_call 113; (with_reducible refine (sum_Right.calls a0 false _ A9.out).mono ?_); rintro e w16 ⟨rfl, hb⟩; replace HB := a0_ (below_step z6_ hb); (try clear hb); (try clear hb2); (try clear hk); (try clear hi))))
        go_ret3
        exact qpx120_
   ·rw [if_neg c4] at H
    exact absurd H (by simp)
  ·rw [if_neg c3] at H
   exact absurd H (by simp)
end Go.Proofs.Ytecfndblgefhdaa.P
