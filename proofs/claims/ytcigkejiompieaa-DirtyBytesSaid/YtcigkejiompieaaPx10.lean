-- Printed by this session's own program wip/mprint.py
import Derived.Test.YtcigkejiompieaaPx0
import Derived.Test.YtcigkejiompieaaPx2
import Derived.Test.YtcigkejiompieaaPx4
import Derived.Test.YtcigkejiompieaaPx6
import Derived.Test.YtcigkejiompieaaPx9
namespace Go.Proofs.Ytcigkejiompieaa.P
open Go.RowKit Go.Proofs.YtcigkejiompieaaW.PrintWords Go.Proofs.YtcigkejiompieaaW.PrintLast Go.Proofs.YtcigkejiompieaaW.PrintMore
attribute [local go_sem] max2_int min2_int max_two min_two max_three min_three max_four min_four   -- for this text's walks alone
set_option linter.unusedVariables false
set_option linter.unusedSimpArgs false

/-! ### counterfoillaw10_DirtyBytes: function 8 -/
def counterfoillaw10_DirtyBytes.f (k : Nat) (l0 : List (S63)) (a1 : ByteArray) : Option (Bool) := if (l0.length : Int) > 300 then ((counterfoillaw10_awake.f).bind fun t260 => (some t260)) else ((dirty_Bytes.f k l0).bind fun bt261 => ((counterfoilref10_Right.f k l0).bind fun t263 => (if t263 = true then (if bt261.1.size + a1.size ≤ 9223372036854775807 then ((dirty_Parse.f k (bt261.1 ++ a1)).bind fun bt265 => ((counterfoilref10_Bytes.f k l0).bind fun t270 => (if bt261.1.toList = t270.toList then (if bt261.2 = 0 then ((counterfoilref10_Equal.f k bt265.1 l0).bind fun t271 => (if t271 = true then (if bt265.2.1.toList = a1.toList then (if bt265.2.2 = 0 then ((counterfoillaw10_awake.f).bind fun t272 => (some t272)) else (some false)) else (some false)) else (some false))) else (some false)) else (some false)))) else (none)) else (if bt261.1.toList = ([] : List UInt8) then (if bt261.2 = 1 then ((counterfoillaw10_awake.f).bind fun t264 => (some t264)) else (some false)) else (some false)))))
theorem counterfoillaw10_DirtyBytes.mono : ∀ a0 a1 k, LeO (counterfoillaw10_DirtyBytes.f k a0 a1) (counterfoillaw10_DirtyBytes.f (k + 1) a0 a1) := by
  intro a0 a1 k
  unfold counterfoillaw10_DirtyBytes.f
  repeat' first
      | (with_reducible exact counterfoilref10_Bytes.mono _ _)
      | (with_reducible exact counterfoilref10_Equal.mono _ _ _)
      | (with_reducible exact counterfoilref10_Right.mono _ _)
      | (with_reducible exact dirty_Bytes.mono _ _)
      | (with_reducible exact dirty_Parse.mono _ _)
      | (with_reducible exact LeO.refl _)
      | (with_reducible exact LeO.none _)
      | (with_reducible refine LeO.ite ?_ ?_)
      | (with_reducible refine LeO.bind ?_ (fun _ => ?_))
      | exact counterfoilref10_Bytes.mono _ _
      | exact counterfoilref10_Equal.mono _ _ _
      | exact counterfoilref10_Right.mono _ _
      | exact dirty_Bytes.mono _ _
      | exact dirty_Parse.mono _ _
      | exact LeO.none _
      | refine LeO.ite ?_ ?_
      | refine LeO.bind ?_ (fun _ => ?_)
set_option maxHeartbeats 8000000 in
set_option maxRecDepth 100000 in
theorem counterfoillaw10_DirtyBytes.calls (k : Nat) (A0 : Option Addr) (c0 : Nat) (l0 : List (S63)) (a1 : ByteArray) (r : Bool) (w : World) (hr0 : Kd.C k63 w A0 l0.length l0) (hc0 : l0.length ≤ c0) (hr_ : r = true) (h : counterfoillaw10_DirtyBytes.f k l0 a1 = some r) :
    Calls Try.prog 8 #[.slice A0 l0.length c0, .string a1] w fun e w' => e = .returned (.bool r) ∧ Below w.heap.size w w' := by
  have HR0 := Aside0.mk hr0
  have HC0 := Aside0.mk hc0
  clear hr0 hc0
  have HB := Aside0.mk (Below.refl w.heap.size w)
  have H : (if (l0.length : Int) > 300 then ((counterfoillaw10_awake.f).bind fun t260 => (some t260)) else ((dirty_Bytes.f k l0).bind fun bt261 => ((counterfoilref10_Right.f k l0).bind fun t263 => (if t263 = true then (if bt261.1.size + a1.size ≤ 9223372036854775807 then ((dirty_Parse.f k (bt261.1 ++ a1)).bind fun bt265 => ((counterfoilref10_Bytes.f k l0).bind fun t270 => (if bt261.1.toList = t270.toList then (if bt261.2 = 0 then ((counterfoilref10_Equal.f k bt265.1 l0).bind fun t271 => (if t271 = true then (if bt265.2.1.toList = a1.toList then (if bt265.2.2 = 0 then ((counterfoillaw10_awake.f).bind fun t272 => (some t272)) else (some false)) else (some false)) else (some false))) else (some false)) else (some false)))) else (none)) else (if bt261.1.toList = ([] : List UInt8) then (if bt261.2 = 1 then ((counterfoillaw10_awake.f).bind fun t264 => (some t264)) else (some false)) else (some false)))))) = some r := h
  clear h
  by_cases c3 : (l0.length : Int) > 300
  · rw [if_pos c3] at H
    have c3b0 : decide (300 < (l0.length : Int)) = true := decide_eq_true c3
    have c3b1 : decide (300 < l0.length) = true := decide_eq_true (by omega)
    clear c3
    replace H := Option.bind_eq_some_iff.mp H
    obtain ⟨t260, A40, H⟩ := H
    replace H : (some t260) = some r := H
    have A4 := Aside0.mk A40
    clear A40
    obtain rfl := Option.some.inj H
    go_enter Try.func8, Try.ntmps8
    go_wp2_with (first | ((with_reducible refine gate_callee (f := 9) rfl ?_); refine goesL_ (some 13) rfl rfl Try.func9 (by kernel_rfl) rfl #[] rfl (by (try simp only [List.map_toArray, List.map_cons, List.map_nil]); first | done | rfl | (simp only [List.length_drop, List.length_take]; rfl)) ?_; (with_reducible refine (counterfoillaw10_awake.calls  t260 _ A4.out).mono ?_); rintro e w5 ⟨rfl, hb⟩; refine ⟨_, rfl, ?_⟩; have n0_ := Aside0.mk (below_step (by repeat (first | (with_reducible first | exact HB.out | apply below_alloc | apply pw_below_drewN | apply below_drew1) | exact HB.out)) hb); clear HB; have HB := n0_; clear n0_; (try clear hb); (try clear hb2); (try clear hk); (try clear hi)))
    go_ret
    exact ⟨by first | rfl | (simp [errW_none, errW_some] <;> rfl) | (simp [*, errW_none, errW_some] <;> rfl), by repeat (first | (with_reducible first | exact HB.out | apply below_alloc | apply pw_below_drewN | apply below_drew1) | exact HB.out)⟩
  · rw [if_neg c3] at H
    have c3b0 : decide (300 < (l0.length : Int)) = false := decide_eq_false c3
    have c3b1 : decide (300 < l0.length) = false := decide_eq_false (by omega)
    clear c3
    replace H := Option.bind_eq_some_iff.mp H
    obtain ⟨⟨t261, t262⟩, A60, H⟩ := H
    replace H : ((counterfoilref10_Right.f k l0).bind fun t263 => (if t263 = true then (if t261.size + a1.size ≤ 9223372036854775807 then ((dirty_Parse.f k (t261 ++ a1)).bind fun bt265 => ((counterfoilref10_Bytes.f k l0).bind fun t270 => (if t261.toList = t270.toList then (if t262 = 0 then ((counterfoilref10_Equal.f k bt265.1 l0).bind fun t271 => (if t271 = true then (if bt265.2.1.toList = a1.toList then (if bt265.2.2 = 0 then ((counterfoillaw10_awake.f).bind fun t272 => (some t272)) else (some false)) else (some false)) else (some false))) else (some false)) else (some false)))) else (none)) else (if t261.toList = ([] : List UInt8) then (if t262 = 1 then ((counterfoillaw10_awake.f).bind fun t264 => (some t264)) else (some false)) else (some false)))) = some r := H
    have A6 := Aside0.mk A60
    clear A60
    replace H := Option.bind_eq_some_iff.mp H
    obtain ⟨t263, A70, H⟩ := H
    replace H : (if t263 = true then (if t261.size + a1.size ≤ 9223372036854775807 then ((dirty_Parse.f k (t261 ++ a1)).bind fun bt265 => ((counterfoilref10_Bytes.f k l0).bind fun t270 => (if t261.toList = t270.toList then (if t262 = 0 then ((counterfoilref10_Equal.f k bt265.1 l0).bind fun t271 => (if t271 = true then (if bt265.2.1.toList = a1.toList then (if bt265.2.2 = 0 then ((counterfoillaw10_awake.f).bind fun t272 => (some t272)) else (some false)) else (some false)) else (some false))) else (some false)) else (some false)))) else (none)) else (if t261.toList = ([] : List UInt8) then (if t262 = 1 then ((counterfoillaw10_awake.f).bind fun t264 => (some t264)) else (some false)) else (some false))) = some r := H
    have A7 := Aside0.mk A70
    clear A70
    by_cases c8 : t263 = true
    · subst c8
      have H1 : (if t261.size + a1.size ≤ 9223372036854775807 then ((dirty_Parse.f k (t261 ++ a1)).bind fun bt265 => ((counterfoilref10_Bytes.f k l0).bind fun t270 => (if t261.toList = t270.toList then (if t262 = 0 then ((counterfoilref10_Equal.f k bt265.1 l0).bind fun t271 => (if t271 = true then (if bt265.2.1.toList = a1.toList then (if bt265.2.2 = 0 then ((counterfoillaw10_awake.f).bind fun t272 => (some t272)) else (some false)) else (some false)) else (some false))) else (some false)) else (some false)))) else (none)) = some r := by rw [if_pos rfl] at H; exact H
      clear H
      have H := H1
      clear H1
      by_cases c9 : t261.size + a1.size ≤ 9223372036854775807
      · rw [if_pos c9] at H
        have c9b0 := eq_true c9
        have c9b1 : decide (t261.size + a1.size ≤ 9223372036854775807) = true := decide_eq_true c9
        try have c9b2 : (9223372036854775807 < t261.size + a1.size) = False := eq_false (Nat.not_lt.2 c9)
        replace H := Option.bind_eq_some_iff.mp H
        obtain ⟨⟨t265, t266, t267⟩, A100, H⟩ := H
        replace H : ((counterfoilref10_Bytes.f k l0).bind fun t270 => (if t261.toList = t270.toList then (if t262 = 0 then ((counterfoilref10_Equal.f k t265 l0).bind fun t271 => (if t271 = true then (if t266.toList = a1.toList then (if t267 = 0 then ((counterfoillaw10_awake.f).bind fun t272 => (some t272)) else (some false)) else (some false)) else (some false))) else (some false)) else (some false))) = some r := H
        have A10 := Aside0.mk A100
        clear A100
        replace H := Option.bind_eq_some_iff.mp H
        obtain ⟨t270, A110, H⟩ := H
        replace H : (if t261.toList = t270.toList then (if t262 = 0 then ((counterfoilref10_Equal.f k t265 l0).bind fun t271 => (if t271 = true then (if t266.toList = a1.toList then (if t267 = 0 then ((counterfoillaw10_awake.f).bind fun t272 => (some t272)) else (some false)) else (some false)) else (some false))) else (some false)) else (some false)) = some r := H
        have A11 := Aside0.mk A110
        clear A110
        by_cases c12 : t261.toList = t270.toList
        · rw [if_pos c12] at H
          have c12b0 : (t261.toList == t270.toList) = true := beq_iff_eq.mpr c12
          have c12b1 : (t261.toList != t270.toList) = false := bne_eq_false_iff_eq.mpr c12
          clear c12
          by_cases c13 : t262 = 0
          · rw [if_pos c13] at H
            have c13b0 : (t262 == 0) = true := beq_iff_eq.mpr c13
            have c13b1 : (t262 != 0) = false := bne_eq_false_iff_eq.mpr c13
            clear c13
            replace H := Option.bind_eq_some_iff.mp H
            obtain ⟨t271, A140, H⟩ := H
            replace H : (if t271 = true then (if t266.toList = a1.toList then (if t267 = 0 then ((counterfoillaw10_awake.f).bind fun t272 => (some t272)) else (some false)) else (some false)) else (some false)) = some r := H
            have A14 := Aside0.mk A140
            clear A140
            by_cases c15 : t271 = true
            · subst c15
              have H1 : (if t266.toList = a1.toList then (if t267 = 0 then ((counterfoillaw10_awake.f).bind fun t272 => (some t272)) else (some false)) else (some false)) = some r := by rw [if_pos rfl] at H; exact H
              clear H
              have H := H1
              clear H1
              by_cases c16 : t266.toList = a1.toList
              · rw [if_pos c16] at H
                have c16b0 : (t266.toList == a1.toList) = true := beq_iff_eq.mpr c16
                have c16b1 : (t266.toList != a1.toList) = false := bne_eq_false_iff_eq.mpr c16
                clear c16
                by_cases c17 : t267 = 0
                · rw [if_pos c17] at H
                  have c17b0 : (t267 == 0) = true := beq_iff_eq.mpr c17
                  have c17b1 : (t267 != 0) = false := bne_eq_false_iff_eq.mpr c17
                  clear c17
                  replace H := Option.bind_eq_some_iff.mp H
                  obtain ⟨t272, A180, H⟩ := H
                  replace H : (some t272) = some r := H
                  have A18 := Aside0.mk A180
                  clear A180
                  obtain rfl := Option.some.inj H
                  go_enter Try.func8, Try.ntmps8
                  go_wp2_with (first | ((with_reducible refine gate_callee (f := 30) rfl ?_); refine goesL_ (some 16) rfl rfl Try.func30 (by kernel_rfl) rfl #[.slice A0 l0.length c0] rfl (by (try simp only [List.map_toArray, List.map_cons, List.map_nil]); first | done | rfl | (simp only [List.length_drop, List.length_take]; rfl)) ?_; (with_reducible refine (dirty_Bytes.calls k _ _ l0 t261 t262 _ ?side1 ?side2 A6.out).mono ?_); (case side1 => repeat (first | exact HR0.out | (with_reducible refine Kd.C_alloc ?_ _) | (with_reducible refine Kd.C_drewN ?_ _) | (with_reducible refine Kd.C_drew ?_))); (case side2 => exact HC0.out); rintro e w19 ⟨rfl, hb⟩; refine ⟨_, rfl, ?_⟩; have n0_ := Aside0.mk (below_step (by repeat (first | (with_reducible first | exact HB.out | apply below_alloc | apply pw_below_drewN | apply below_drew1) | exact HB.out)) hb); clear HB; have HB := n0_; clear n0_; (try clear hb); (try clear hb2); (try clear hk); (try clear hi)) | ((with_reducible refine gate_callee (f := 13) rfl ?_); refine goesL_ (some 20) rfl rfl Try.func13 (by kernel_rfl) rfl #[.slice A0 l0.length c0] rfl (by (try simp only [List.map_toArray, List.map_cons, List.map_nil]); first | done | rfl | (simp only [List.length_drop, List.length_take]; rfl)) ?_; (with_reducible refine (counterfoilref10_Right.calls k _ _ l0 true _ ?side1 ?side2 A7.out).mono ?_); (case side1 => repeat (first | exact (Kd.C_below HR0.out HB.out) | (with_reducible refine Kd.C_alloc ?_ _) | (with_reducible refine Kd.C_drewN ?_ _) | (with_reducible refine Kd.C_drew ?_))); (case side2 => exact HC0.out); rintro e w20 ⟨rfl, hb⟩; refine ⟨_, rfl, ?_⟩; have n0_ := Aside0.mk (below_step (by repeat (first | (with_reducible first | exact HB.out | apply below_alloc | apply pw_below_drewN | apply below_drew1) | exact HB.out)) hb); clear HB; have HB := n0_; clear n0_; (try clear hb); (try clear hb2); (try clear hk); (try clear hi)) | ((with_reducible refine gate_callee (f := 20) rfl ?_); refine goesL_ (some 35) rfl rfl Try.func20 (by kernel_rfl) rfl #[.string (t261 ++ a1)] rfl (by (try simp only [List.map_toArray, List.map_cons, List.map_nil]); first | done | rfl | (simp only [List.length_drop, List.length_take]; rfl)) ?_; (with_reducible refine (dirty_Parse.calls k (t261 ++ a1) t265 t266 t267 _ A10.out).mono ?_); rintro e w21 ⟨v268, rfl, ho0, hb⟩; refine ⟨_, rfl, ?_⟩; have n0_ := Aside0.mk (Kd.R_lower ho0 (below_size (by repeat (first | (with_reducible first | exact HB.out | apply below_alloc | apply pw_below_drewN | apply below_drew1) | exact HB.out)))); have n1_ := Aside0.mk (below_step (by repeat (first | (with_reducible first | exact HB.out | apply below_alloc | apply pw_below_drewN | apply below_drew1) | exact HB.out)) hb); clear HB; have HO269 := n0_; have HB := n1_; clear n0_ n1_; (try clear hb); (try clear hb2); (try clear hk); (try clear hi); (try clear ho0)) | ((with_reducible refine gate_callee (f := 31) rfl ?_); refine goesL_ (some 41) rfl rfl Try.func31 (by kernel_rfl) rfl #[.slice A0 l0.length c0] rfl (by (try simp only [List.map_toArray, List.map_cons, List.map_nil]); first | done | rfl | (simp only [List.length_drop, List.length_take]; rfl)) ?_; (with_reducible refine (counterfoilref10_Bytes.calls k _ _ l0 t270 _ ?side1 ?side2 A11.out).mono ?_); (case side1 => repeat (first | exact (Kd.C_below HR0.out HB.out) | (with_reducible refine Kd.C_alloc ?_ _) | (with_reducible refine Kd.C_drewN ?_ _) | (with_reducible refine Kd.C_drew ?_))); (case side2 => exact HC0.out); rintro e w22 ⟨rfl, hb⟩; refine ⟨_, rfl, ?_⟩; have n0_ := Aside0.mk (Kd.R_below (by (with_reducible repeat (first | apply Kd.R_alloc | apply Kd.R_drewN | apply Kd.R_drew)); exact HO269.out) hb); have n1_ := Aside0.mk (below_step (by repeat (first | (with_reducible first | exact HB.out | apply below_alloc | apply pw_below_drewN | apply below_drew1) | exact HB.out)) hb); clear HO269; clear HB; have HO269 := n0_; have HB := n1_; clear n0_ n1_; (try clear hb); (try clear hb2); (try clear hk); (try clear hi); obtain ⟨Ao23, co23, eo23⟩ := Kd.R_slice HO269.out; subst eo23) | (go_at_call 12; (with_reducible refine (counterfoilref10_Equal.calls k _ _ t265 _ _ l0 true _ ?side1 ?side2 ?side3 ?side4 A14.out).mono ?_); (case side1 => repeat (first | exact (Kd.R_reads' HO269.out).2.2 | (with_reducible refine Kd.C_alloc ?_ _) | (with_reducible refine Kd.C_drewN ?_ _) | (with_reducible refine Kd.C_drew ?_))); (case side2 => exact (Kd.R_reads' HO269.out).2.1); (case side3 => repeat (first | exact (Kd.C_below HR0.out HB.out) | (with_reducible refine Kd.C_alloc ?_ _) | (with_reducible refine Kd.C_drewN ?_ _) | (with_reducible refine Kd.C_drew ?_))); (case side4 => exact HC0.out); rintro e w' ⟨rfl, ⟨nd, rfl⟩⟩) | (go_at_call 9; (with_reducible refine (counterfoillaw10_awake.calls  t272 _ A18.out).mono ?_); rintro e w24 ⟨rfl, hb⟩; have n0_ := Aside0.mk (Kd.R_below (by (with_reducible repeat (first | apply Kd.R_alloc | apply Kd.R_drewN | apply Kd.R_drew)); exact HO269.out) hb); have n1_ := Aside0.mk (below_step (by repeat (first | (with_reducible first | exact HB.out | apply below_alloc | apply pw_below_drewN | apply below_drew1) | exact HB.out)) hb); clear HO269; clear HB; have HO269 := n0_; have HB := n1_; clear n0_ n1_; (try clear hb); (try clear hb2); (try clear hk); (try clear hi)))
                  go_ret
                  exact ⟨by first | rfl | (simp [errW_none, errW_some] <;> rfl) | (simp [*, errW_none, errW_some] <;> rfl), by repeat (first | (with_reducible first | exact HB.out | apply below_alloc | apply pw_below_drewN | apply below_drew1) | exact HB.out)⟩
                · rw [if_neg c17] at H
                  have c17b0 : (t267 == 0) = false := beq_eq_false_iff_ne.mpr c17
                  have c17b1 : (t267 != 0) = true := bne_iff_ne.mpr c17
                  exact absurd H (by simp [hr_])
              · rw [if_neg c16] at H
                have c16b0 : (t266.toList == a1.toList) = false := beq_eq_false_iff_ne.mpr c16
                have c16b1 : (t266.toList != a1.toList) = true := bne_iff_ne.mpr c16
                exact absurd H (by simp [hr_])
            · replace c15 := Bool.eq_false_iff.mpr c15
              subst c15
              have H1 : (some false) = some r := by rw [if_neg (show ¬ (false = true) by decide)] at H; exact H
              clear H
              have H := H1
              clear H1
              exact absurd H (by simp [hr_])
          · rw [if_neg c13] at H
            have c13b0 : (t262 == 0) = false := beq_eq_false_iff_ne.mpr c13
            have c13b1 : (t262 != 0) = true := bne_iff_ne.mpr c13
            exact absurd H (by simp [hr_])
        · rw [if_neg c12] at H
          have c12b0 : (t261.toList == t270.toList) = false := beq_eq_false_iff_ne.mpr c12
          have c12b1 : (t261.toList != t270.toList) = true := bne_iff_ne.mpr c12
          exact absurd H (by simp [hr_])
      · rw [if_neg c9] at H
        exact absurd H (by simp)
    · replace c8 := Bool.eq_false_iff.mpr c8
      subst c8
      have H1 : (if t261.toList = ([] : List UInt8) then (if t262 = 1 then ((counterfoillaw10_awake.f).bind fun t264 => (some t264)) else (some false)) else (some false)) = some r := by rw [if_neg (show ¬ (false = true) by decide)] at H; exact H
      clear H
      have H := H1
      clear H1
      by_cases c25 : t261.toList = ([] : List UInt8)
      · rw [if_pos c25] at H
        have c25b0 : (t261.toList == ([] : List UInt8)) = true := beq_iff_eq.mpr c25
        have c25b1 : (t261.toList != ([] : List UInt8)) = false := bne_eq_false_iff_eq.mpr c25
        clear c25
        by_cases c26 : t262 = 1
        · rw [if_pos c26] at H
          have c26b0 : (t262 == 1) = true := beq_iff_eq.mpr c26
          have c26b1 : (t262 != 1) = false := bne_eq_false_iff_eq.mpr c26
          clear c26
          replace H := Option.bind_eq_some_iff.mp H
          obtain ⟨t264, A270, H⟩ := H
          replace H : (some t264) = some r := H
          have A27 := Aside0.mk A270
          clear A270
          obtain rfl := Option.some.inj H
          go_enter Try.func8, Try.ntmps8
          go_wp2_with (first | ((with_reducible refine gate_callee (f := 30) rfl ?_); refine goesL_ (some 16) rfl rfl Try.func30 (by kernel_rfl) rfl #[.slice A0 l0.length c0] rfl (by (try simp only [List.map_toArray, List.map_cons, List.map_nil]); first | done | rfl | (simp only [List.length_drop, List.length_take]; rfl)) ?_; (with_reducible refine (dirty_Bytes.calls k _ _ l0 t261 t262 _ ?side1 ?side2 A6.out).mono ?_); (case side1 => repeat (first | exact HR0.out | (with_reducible refine Kd.C_alloc ?_ _) | (with_reducible refine Kd.C_drewN ?_ _) | (with_reducible refine Kd.C_drew ?_))); (case side2 => exact HC0.out); rintro e w28 ⟨rfl, hb⟩; refine ⟨_, rfl, ?_⟩; have n0_ := Aside0.mk (below_step (by repeat (first | (with_reducible first | exact HB.out | apply below_alloc | apply pw_below_drewN | apply below_drew1) | exact HB.out)) hb); clear HB; have HB := n0_; clear n0_; (try clear hb); (try clear hb2); (try clear hk); (try clear hi)) | ((with_reducible refine gate_callee (f := 13) rfl ?_); refine goesL_ (some 20) rfl rfl Try.func13 (by kernel_rfl) rfl #[.slice A0 l0.length c0] rfl (by (try simp only [List.map_toArray, List.map_cons, List.map_nil]); first | done | rfl | (simp only [List.length_drop, List.length_take]; rfl)) ?_; (with_reducible refine (counterfoilref10_Right.calls k _ _ l0 false _ ?side1 ?side2 A7.out).mono ?_); (case side1 => repeat (first | exact (Kd.C_below HR0.out HB.out) | (with_reducible refine Kd.C_alloc ?_ _) | (with_reducible refine Kd.C_drewN ?_ _) | (with_reducible refine Kd.C_drew ?_))); (case side2 => exact HC0.out); rintro e w29 ⟨rfl, hb⟩; refine ⟨_, rfl, ?_⟩; have n0_ := Aside0.mk (below_step (by repeat (first | (with_reducible first | exact HB.out | apply below_alloc | apply pw_below_drewN | apply below_drew1) | exact HB.out)) hb); clear HB; have HB := n0_; clear n0_; (try clear hb); (try clear hb2); (try clear hk); (try clear hi)) | (go_at_call 9; (with_reducible refine (counterfoillaw10_awake.calls  t264 _ A27.out).mono ?_); rintro e w30 ⟨rfl, hb⟩; have n0_ := Aside0.mk (below_step (by repeat (first | (with_reducible first | exact HB.out | apply below_alloc | apply pw_below_drewN | apply below_drew1) | exact HB.out)) hb); clear HB; have HB := n0_; clear n0_; (try clear hb); (try clear hb2); (try clear hk); (try clear hi)))
          go_ret
          exact ⟨by first | rfl | (simp [errW_none, errW_some] <;> rfl) | (simp [*, errW_none, errW_some] <;> rfl), by repeat (first | (with_reducible first | exact HB.out | apply below_alloc | apply pw_below_drewN | apply below_drew1) | exact HB.out)⟩
        · rw [if_neg c26] at H
          have c26b0 : (t262 == 1) = false := beq_eq_false_iff_ne.mpr c26
          have c26b1 : (t262 != 1) = true := bne_iff_ne.mpr c26
          exact absurd H (by simp [hr_])
      · rw [if_neg c25] at H
        have c25b0 : (t261.toList == ([] : List UInt8)) = false := beq_eq_false_iff_ne.mpr c25
        have c25b1 : (t261.toList != ([] : List UInt8)) = true := bne_iff_ne.mpr c25
        exact absurd H (by simp [hr_])

/-- THE ONE PURE STATEMENT of counterfoillaw10_DirtyBytes: yours. -/
def counterfoillaw10_DirtyBytes.Pure : Prop := ∀ (l0 : List (S63)) (a1 : ByteArray), (l0.length * 16 ≤ 140737488351232 ∧ l0.length ≤ 9223372036854775807 ∧ ∀ y0 ∈ l0, ((Lit.int .i64 y0.f0).wf = true ∧ (Lit.int .u64 y0.f1).wf = true)) → a1.size ≤ 140737488351232 → ∃ k, counterfoillaw10_DirtyBytes.f k l0 a1 = some true

end Go.Proofs.Ytcigkejiompieaa.P
