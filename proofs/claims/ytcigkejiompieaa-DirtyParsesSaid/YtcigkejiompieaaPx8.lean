-- Printed by this session's own program wip/mprint.py
import Derived.Test.YtcigkejiompieaaPx0
import Derived.Test.YtcigkejiompieaaPx2
import Derived.Test.YtcigkejiompieaaPx3
import Derived.Test.YtcigkejiompieaaPx7
namespace Go.Proofs.Ytcigkejiompieaa.P
open Go.RowKit Go.Proofs.YtcigkejiompieaaW.PrintWords Go.Proofs.YtcigkejiompieaaW.PrintLast Go.Proofs.YtcigkejiompieaaW.PrintMore
attribute [local go_sem] max2_int min2_int max_two min_two max_three min_three max_four min_four   -- for this text's walks alone
set_option linter.unusedVariables false
set_option linter.unusedSimpArgs false

/-! ### counterfoillaw10_DirtyMore: function 7 -/
def counterfoillaw10_DirtyMore.j0 : Nat → List (S63) → List (S63) → Int → Int → Bool → Option (Bool)
  | 0, _, _, _, _, _ => none
  | k + 1, x0, x1, x2, x3, x18 => if x18 = true then ((counterfoillaw10_awake.f).bind fun t204 => (some t204)) else ((dirty_Join.f k x0 x1).bind fun bt205 => (if bt205.2 = 0 then ((dirty_Has.f k bt205.1 x2 x3).bind fun t210 => ((dirty_Has.f k x0 x2 x3).bind fun t211 => (if t211 = true then (if (t210 == true) = true then ((dirty_Count.f k bt205.1).bind fun t212 => ((dirty_Count.f k x0).bind fun t213 => ((dirty_Count.f k x1).bind fun t214 => (if t212 ≤ (wrap64 (t213 + t214)) then ((dirty_Right.f k bt205.1).bind fun t215 => (if t215 = true then ((counterfoillaw10_awake.f).bind fun t216 => (some t216)) else (some false))) else (some false))))) else (some false)) else ((dirty_Has.f k x1 x2 x3).bind fun t217 => (if (t210 == t217) = true then ((dirty_Count.f k bt205.1).bind fun t218 => ((dirty_Count.f k x0).bind fun t219 => ((dirty_Count.f k x1).bind fun t220 => (if t218 ≤ (wrap64 (t219 + t220)) then ((dirty_Right.f k bt205.1).bind fun t221 => (if t221 = true then ((counterfoillaw10_awake.f).bind fun t222 => (some t222)) else (some false))) else (some false))))) else (some false)))))) else (if (bt205.1.length : Int) = 0 then ((counterfoillaw10_awake.f).bind fun t209 => (some t209)) else (some false))))
def counterfoillaw10_DirtyMore.f (k : Nat) (l0 : List (S63)) (l1 : List (S63)) (a2 : Int) (a3 : Int) : Option (Bool) := if (l0.length : Int) > 300 then (counterfoillaw10_DirtyMore.j0 k l0 l1 a2 a3 true) else (counterfoillaw10_DirtyMore.j0 k l0 l1 a2 a3 (decide ((l1.length : Int) > 300)))
theorem counterfoillaw10_DirtyMore.mono_l : ∀ k, (∀ y0 y1 y2 y3 y4, LeO (counterfoillaw10_DirtyMore.j0 k y0 y1 y2 y3 y4) (counterfoillaw10_DirtyMore.j0 (k + 1) y0 y1 y2 y3 y4))
  | 0 => fun _ _ _ _ _ r h => by simp [counterfoillaw10_DirtyMore.j0] at h
  | k + 1 => by
    have ih0 := counterfoillaw10_DirtyMore.mono_l k
    · intro y0 y1 y2 y3 y4
      unfold counterfoillaw10_DirtyMore.j0
      repeat' first
      | (with_reducible exact ih0 _ _ _ _ _)
      | (with_reducible exact dirty_Count.mono _ _)
      | (with_reducible exact dirty_Has.mono _ _ _ _)
      | (with_reducible exact dirty_Join.mono _ _ _)
      | (with_reducible exact dirty_Right.mono _ _)
      | (with_reducible exact LeO.refl _)
      | (with_reducible exact LeO.none _)
      | (with_reducible refine LeO.ite ?_ ?_)
      | (with_reducible refine LeO.bind ?_ (fun _ => ?_))
      | exact ih0 _ _ _ _ _
      | exact dirty_Count.mono _ _
      | exact dirty_Has.mono _ _ _ _
      | exact dirty_Join.mono _ _ _
      | exact dirty_Right.mono _ _
      | exact LeO.none _
      | refine LeO.ite ?_ ?_
      | refine LeO.bind ?_ (fun _ => ?_)
theorem counterfoillaw10_DirtyMore.mono : ∀ a0 a1 a2 a3 k, LeO (counterfoillaw10_DirtyMore.f k a0 a1 a2 a3) (counterfoillaw10_DirtyMore.f (k + 1) a0 a1 a2 a3) := by
  intro a0 a1 a2 a3 k
  have ih0 := counterfoillaw10_DirtyMore.mono_l k
  unfold counterfoillaw10_DirtyMore.f
  repeat' first
      | (with_reducible exact ih0 _ _ _ _ _)
      | (with_reducible exact dirty_Count.mono _ _)
      | (with_reducible exact dirty_Has.mono _ _ _ _)
      | (with_reducible exact dirty_Join.mono _ _ _)
      | (with_reducible exact dirty_Right.mono _ _)
      | (with_reducible exact LeO.refl _)
      | (with_reducible exact LeO.none _)
      | (with_reducible refine LeO.ite ?_ ?_)
      | (with_reducible refine LeO.bind ?_ (fun _ => ?_))
      | exact ih0 _ _ _ _ _
      | exact dirty_Count.mono _ _
      | exact dirty_Has.mono _ _ _ _
      | exact dirty_Join.mono _ _ _
      | exact dirty_Right.mono _ _
      | exact LeO.none _
      | refine LeO.ite ?_ ?_
      | refine LeO.bind ?_ (fun _ => ?_)
set_option maxHeartbeats 8000000 in
set_option maxRecDepth 100000 in
theorem counterfoillaw10_DirtyMore.calls (k : Nat) (A0 : Option Addr) (c0 : Nat) (l0 : List (S63)) (A1 : Option Addr) (c1 : Nat) (l1 : List (S63)) (a2 : Int) (a3 : Int) (r : Bool) (w : World) (hr0 : Kd.C k63 w A0 l0.length l0) (hc0 : l0.length ≤ c0) (hr1 : Kd.C k63 w A1 l1.length l1) (hc1 : l1.length ≤ c1) (hr_ : r = true) (h : counterfoillaw10_DirtyMore.f k l0 l1 a2 a3 = some r) :
    Calls Try.prog 7 #[.slice A0 l0.length c0, .slice A1 l1.length c1, .int .i64 a2, .int .i64 a3] w fun e w' => e = .returned (.bool r) ∧ Below w.heap.size w w' := by
  have HR0 := Aside0.mk hr0
  have HC0 := Aside0.mk hc0
  clear hr0 hc0
  have HR1 := Aside0.mk hr1
  have HC1 := Aside0.mk hc1
  clear hr1 hc1
  have HB := Aside0.mk (Below.refl w.heap.size w)
  have H : (if (l0.length : Int) > 300 then (counterfoillaw10_DirtyMore.j0 k l0 l1 a2 a3 true) else (counterfoillaw10_DirtyMore.j0 k l0 l1 a2 a3 (decide ((l1.length : Int) > 300)))) = some r := h
  clear h
  have HC5 := Aside0.mk H
  clear H
  go_enter Try.func7, Try.ntmps7
  go_upto_region 1 with (fail)
  go_cut [18] (fun v18 wc => ∃ (kq : Nat) (x18_4 : Bool), v18 = .bool x18_4 ∧ Aside0 (counterfoillaw10_DirtyMore.j0 kq l0 l1 a2 a3 x18_4 = some r) ∧ Aside0 (kq ≤ k) ∧ Aside0 (Below w.heap.size w wc))
  case first =>
    have H := HC5.out
    clear HC5
    by_cases c6 : (l0.length : Int) > 300
    · rw [if_pos c6] at H
      have c6b0 : decide (300 < (l0.length : Int)) = true := decide_eq_true c6
      have c6b1 : decide (300 < l0.length) = true := decide_eq_true (by omega)
      clear c6
      (first | rw [c6b0] | (simp only [i64_w, i32_w]; rw [c6b0]) | skip)
      have H' := Aside0.mk H
      clear H
      go_wp2
      go_meet
      case rel => exact ⟨_, (true), (by first | rfl | (simp; done) | (simp [*]; done)), H', ⟨by first | omega | exact Nat.le_refl _⟩, ⟨by repeat (first | (with_reducible first | exact HB.out | apply below_alloc | apply pw_below_drewN | apply below_drew1) | exact HB.out)⟩⟩
    · rw [if_neg c6] at H
      have c6b0 : decide (300 < (l0.length : Int)) = false := decide_eq_false c6
      have c6b1 : decide (300 < l0.length) = false := decide_eq_false (by omega)
      clear c6
      (first | rw [c6b0] | (simp only [i64_w, i32_w]; rw [c6b0]) | skip)
      have H' := Aside0.mk H
      clear H
      go_wp2
      go_meet
      case rel => exact ⟨_, (decide ((l1.length : Int) > 300)), (by first | rfl | (simp; done) | (simp [*]; done)), H', ⟨by first | omega | exact Nat.le_refl _⟩, ⟨by repeat (first | (with_reducible first | exact HB.out | apply below_alloc | apply pw_below_drewN | apply below_drew1) | exact HB.out)⟩⟩
  case rest =>
    clear HC5
    try clear c1
    try clear p2
    try clear c6
    try clear c6b0
    try clear c6b1
    obtain ⟨kq, x18_4, rfl, HA, HJ4, HB⟩ := hcut
    cases kq with
    | zero => exact absurd HA.out (by simp [counterfoillaw10_DirtyMore.j0])
    | succ kj4 =>
      have H := HA.out
      clear HA
      simp only [counterfoillaw10_DirtyMore.j0] at H
      by_cases c7 : x18_4 = true
      · subst c7
        have H1 : ((counterfoillaw10_awake.f).bind fun t204 => (some t204)) = some r := by rw [if_pos rfl] at H; exact H
        clear H
        have H := H1
        clear H1
        replace H := Option.bind_eq_some_iff.mp H
        obtain ⟨t204, A80, H⟩ := H
        replace H : (some t204) = some r := H
        have A8 := Aside0.mk A80
        clear A80
        obtain rfl := Option.some.inj H
        go_wp2_with (first | ((with_reducible refine gate_callee (f := 9) rfl ?_); refine goesL_ (some 19) rfl rfl Try.func9 (by kernel_rfl) rfl #[] rfl (by (try simp only [List.map_toArray, List.map_cons, List.map_nil]); first | done | rfl | (simp only [List.length_drop, List.length_take]; rfl)) ?_; (with_reducible refine (counterfoillaw10_awake.calls  t204 _ A8.out).mono ?_); rintro e w9 ⟨rfl, hb⟩; refine ⟨_, rfl, ?_⟩; have n0_ := Aside0.mk (below_step (by repeat (first | (with_reducible first | exact HB.out | apply below_alloc | apply pw_below_drewN | apply below_drew1) | exact HB.out)) hb); clear HB; have HB := n0_; clear n0_; (try clear hb); (try clear hb2); (try clear hk); (try clear hi)))
        go_ret
        exact ⟨by first | rfl | (simp [errW_none, errW_some] <;> rfl) | (simp [*, errW_none, errW_some] <;> rfl), by repeat (first | (with_reducible first | exact HB.out | apply below_alloc | apply pw_below_drewN | apply below_drew1) | exact HB.out)⟩
      · replace c7 := Bool.eq_false_iff.mpr c7
        subst c7
        have H1 : ((dirty_Join.f kj4 l0 l1).bind fun bt205 => (if bt205.2 = 0 then ((dirty_Has.f kj4 bt205.1 a2 a3).bind fun t210 => ((dirty_Has.f kj4 l0 a2 a3).bind fun t211 => (if t211 = true then (if (t210 == true) = true then ((dirty_Count.f kj4 bt205.1).bind fun t212 => ((dirty_Count.f kj4 l0).bind fun t213 => ((dirty_Count.f kj4 l1).bind fun t214 => (if t212 ≤ (wrap64 (t213 + t214)) then ((dirty_Right.f kj4 bt205.1).bind fun t215 => (if t215 = true then ((counterfoillaw10_awake.f).bind fun t216 => (some t216)) else (some false))) else (some false))))) else (some false)) else ((dirty_Has.f kj4 l1 a2 a3).bind fun t217 => (if (t210 == t217) = true then ((dirty_Count.f kj4 bt205.1).bind fun t218 => ((dirty_Count.f kj4 l0).bind fun t219 => ((dirty_Count.f kj4 l1).bind fun t220 => (if t218 ≤ (wrap64 (t219 + t220)) then ((dirty_Right.f kj4 bt205.1).bind fun t221 => (if t221 = true then ((counterfoillaw10_awake.f).bind fun t222 => (some t222)) else (some false))) else (some false))))) else (some false)))))) else (if (bt205.1.length : Int) = 0 then ((counterfoillaw10_awake.f).bind fun t209 => (some t209)) else (some false)))) = some r := by rw [if_neg (show ¬ (false = true) by decide)] at H; exact H
        clear H
        have H := H1
        clear H1
        replace H := Option.bind_eq_some_iff.mp H
        obtain ⟨⟨t205, t206⟩, A100, H⟩ := H
        replace H : (if t206 = 0 then ((dirty_Has.f kj4 t205 a2 a3).bind fun t210 => ((dirty_Has.f kj4 l0 a2 a3).bind fun t211 => (if t211 = true then (if (t210 == true) = true then ((dirty_Count.f kj4 t205).bind fun t212 => ((dirty_Count.f kj4 l0).bind fun t213 => ((dirty_Count.f kj4 l1).bind fun t214 => (if t212 ≤ (wrap64 (t213 + t214)) then ((dirty_Right.f kj4 t205).bind fun t215 => (if t215 = true then ((counterfoillaw10_awake.f).bind fun t216 => (some t216)) else (some false))) else (some false))))) else (some false)) else ((dirty_Has.f kj4 l1 a2 a3).bind fun t217 => (if (t210 == t217) = true then ((dirty_Count.f kj4 t205).bind fun t218 => ((dirty_Count.f kj4 l0).bind fun t219 => ((dirty_Count.f kj4 l1).bind fun t220 => (if t218 ≤ (wrap64 (t219 + t220)) then ((dirty_Right.f kj4 t205).bind fun t221 => (if t221 = true then ((counterfoillaw10_awake.f).bind fun t222 => (some t222)) else (some false))) else (some false))))) else (some false)))))) else (if (t205.length : Int) = 0 then ((counterfoillaw10_awake.f).bind fun t209 => (some t209)) else (some false))) = some r := H
        have A10 := Aside0.mk A100
        clear A100
        by_cases c11 : t206 = 0
        · rw [if_pos c11] at H
          have c11b0 : (t206 == 0) = true := beq_iff_eq.mpr c11
          have c11b1 : (t206 != 0) = false := bne_eq_false_iff_eq.mpr c11
          clear c11
          replace H := Option.bind_eq_some_iff.mp H
          obtain ⟨t210, A120, H⟩ := H
          replace H : ((dirty_Has.f kj4 l0 a2 a3).bind fun t211 => (if t211 = true then (if (t210 == true) = true then ((dirty_Count.f kj4 t205).bind fun t212 => ((dirty_Count.f kj4 l0).bind fun t213 => ((dirty_Count.f kj4 l1).bind fun t214 => (if t212 ≤ (wrap64 (t213 + t214)) then ((dirty_Right.f kj4 t205).bind fun t215 => (if t215 = true then ((counterfoillaw10_awake.f).bind fun t216 => (some t216)) else (some false))) else (some false))))) else (some false)) else ((dirty_Has.f kj4 l1 a2 a3).bind fun t217 => (if (t210 == t217) = true then ((dirty_Count.f kj4 t205).bind fun t218 => ((dirty_Count.f kj4 l0).bind fun t219 => ((dirty_Count.f kj4 l1).bind fun t220 => (if t218 ≤ (wrap64 (t219 + t220)) then ((dirty_Right.f kj4 t205).bind fun t221 => (if t221 = true then ((counterfoillaw10_awake.f).bind fun t222 => (some t222)) else (some false))) else (some false))))) else (some false))))) = some r := H
          have A12 := Aside0.mk A120
          clear A120
          replace H := Option.bind_eq_some_iff.mp H
          obtain ⟨t211, A130, H⟩ := H
          replace H : (if t211 = true then (if (t210 == true) = true then ((dirty_Count.f kj4 t205).bind fun t212 => ((dirty_Count.f kj4 l0).bind fun t213 => ((dirty_Count.f kj4 l1).bind fun t214 => (if t212 ≤ (wrap64 (t213 + t214)) then ((dirty_Right.f kj4 t205).bind fun t215 => (if t215 = true then ((counterfoillaw10_awake.f).bind fun t216 => (some t216)) else (some false))) else (some false))))) else (some false)) else ((dirty_Has.f kj4 l1 a2 a3).bind fun t217 => (if (t210 == t217) = true then ((dirty_Count.f kj4 t205).bind fun t218 => ((dirty_Count.f kj4 l0).bind fun t219 => ((dirty_Count.f kj4 l1).bind fun t220 => (if t218 ≤ (wrap64 (t219 + t220)) then ((dirty_Right.f kj4 t205).bind fun t221 => (if t221 = true then ((counterfoillaw10_awake.f).bind fun t222 => (some t222)) else (some false))) else (some false))))) else (some false)))) = some r := H
          have A13 := Aside0.mk A130
          clear A130
          by_cases c14 : t211 = true
          · subst c14
            have H1 : (if (t210 == true) = true then ((dirty_Count.f kj4 t205).bind fun t212 => ((dirty_Count.f kj4 l0).bind fun t213 => ((dirty_Count.f kj4 l1).bind fun t214 => (if t212 ≤ (wrap64 (t213 + t214)) then ((dirty_Right.f kj4 t205).bind fun t215 => (if t215 = true then ((counterfoillaw10_awake.f).bind fun t216 => (some t216)) else (some false))) else (some false))))) else (some false)) = some r := by rw [if_pos rfl] at H; exact H
            clear H
            have H := H1
            clear H1
            by_cases c15 : (t210 == true) = true
            · rw [if_pos c15] at H
              have c15b0 : (t210 == true) = true := c15
              (try (have c15b1 : decide (t210 = true) = true := by simpa using c15))
              (try (have c15b2 : (t210 == true) = true := by simpa using c15))
              clear c15
              replace H := Option.bind_eq_some_iff.mp H
              obtain ⟨t212, A160, H⟩ := H
              replace H : ((dirty_Count.f kj4 l0).bind fun t213 => ((dirty_Count.f kj4 l1).bind fun t214 => (if t212 ≤ (wrap64 (t213 + t214)) then ((dirty_Right.f kj4 t205).bind fun t215 => (if t215 = true then ((counterfoillaw10_awake.f).bind fun t216 => (some t216)) else (some false))) else (some false)))) = some r := H
              have A16 := Aside0.mk A160
              clear A160
              replace H := Option.bind_eq_some_iff.mp H
              obtain ⟨t213, A170, H⟩ := H
              replace H : ((dirty_Count.f kj4 l1).bind fun t214 => (if t212 ≤ (wrap64 (t213 + t214)) then ((dirty_Right.f kj4 t205).bind fun t215 => (if t215 = true then ((counterfoillaw10_awake.f).bind fun t216 => (some t216)) else (some false))) else (some false))) = some r := H
              have A17 := Aside0.mk A170
              clear A170
              replace H := Option.bind_eq_some_iff.mp H
              obtain ⟨t214, A180, H⟩ := H
              replace H : (if t212 ≤ (wrap64 (t213 + t214)) then ((dirty_Right.f kj4 t205).bind fun t215 => (if t215 = true then ((counterfoillaw10_awake.f).bind fun t216 => (some t216)) else (some false))) else (some false)) = some r := H
              have A18 := Aside0.mk A180
              clear A180
              by_cases c19 : t212 ≤ (wrap64 (t213 + t214))
              · rw [if_pos c19] at H
                have c19b0 : decide (t212 ≤ (wrap64 (t213 + t214))) = true := decide_eq_true c19
                clear c19
                replace H := Option.bind_eq_some_iff.mp H
                obtain ⟨t215, A200, H⟩ := H
                replace H : (if t215 = true then ((counterfoillaw10_awake.f).bind fun t216 => (some t216)) else (some false)) = some r := H
                have A20 := Aside0.mk A200
                clear A200
                by_cases c21 : t215 = true
                · subst c21
                  have H1 : ((counterfoillaw10_awake.f).bind fun t216 => (some t216)) = some r := by rw [if_pos rfl] at H; exact H
                  clear H
                  have H := H1
                  clear H1
                  replace H := Option.bind_eq_some_iff.mp H
                  obtain ⟨t216, A220, H⟩ := H
                  replace H : (some t216) = some r := H
                  have A22 := Aside0.mk A220
                  clear A220
                  obtain rfl := Option.some.inj H
                  go_wp2_with (first | ((with_reducible refine gate_callee (f := 10) rfl ?_); refine goesL_ (some 23) rfl rfl Try.func10 (by kernel_rfl) rfl #[.slice A0 l0.length c0, .slice A1 l1.length c1] rfl (by (try simp only [List.map_toArray, List.map_cons, List.map_nil]); first | done | rfl | (simp only [List.length_drop, List.length_take]; rfl)) ?_; (with_reducible refine (dirty_Join.calls kj4 _ _ l0 _ _ l1 t205 t206 _ ?side1 ?side2 ?side3 ?side4 A10.out).mono ?_); (case side1 => repeat (first | exact (Kd.C_below HR0.out HB.out) | (with_reducible refine Kd.C_alloc ?_ _) | (with_reducible refine Kd.C_drewN ?_ _) | (with_reducible refine Kd.C_drew ?_))); (case side2 => exact HC0.out); (case side3 => repeat (first | exact (Kd.C_below HR1.out HB.out) | (with_reducible refine Kd.C_alloc ?_ _) | (with_reducible refine Kd.C_drewN ?_ _) | (with_reducible refine Kd.C_drew ?_))); (case side4 => exact HC1.out); rintro e w23 ⟨v207, rfl, ho0, hb⟩; refine ⟨_, rfl, ?_⟩; have n0_ := Aside0.mk (Kd.R_lower ho0 (below_size (by repeat (first | (with_reducible first | exact HB.out | apply below_alloc | apply pw_below_drewN | apply below_drew1) | exact HB.out)))); have n1_ := Aside0.mk (below_step (by repeat (first | (with_reducible first | exact HB.out | apply below_alloc | apply pw_below_drewN | apply below_drew1) | exact HB.out)) hb); clear HB; have HO208 := n0_; have HB := n1_; clear n0_ n1_; (try clear hb); (try clear hb2); (try clear hk); (try clear hi); (try clear ho0); obtain ⟨Ao24, co24, eo24⟩ := Kd.R_slice HO208.out; subst eo24) | ((with_reducible refine gate_callee (f := 15) rfl ?_); refine goesL_ (some 37) rfl rfl Try.func15 (by kernel_rfl) rfl #[.slice Ao24 t205.length co24, .int .i64 a2, .int .i64 a3] rfl (by (try simp only [List.map_toArray, List.map_cons, List.map_nil]); first | done | rfl | (simp only [List.length_drop, List.length_take]; rfl)) ?_; (with_reducible refine (dirty_Has.calls kj4 _ _ t205 a2 a3 t210 _ ?side1 ?side2 A12.out).mono ?_); (case side1 => repeat (first | exact (Kd.R_reads' HO208.out).2.2 | (with_reducible refine Kd.C_alloc ?_ _) | (with_reducible refine Kd.C_drewN ?_ _) | (with_reducible refine Kd.C_drew ?_))); (case side2 => exact (Kd.R_reads' HO208.out).2.1); rintro e w25 ⟨rfl, hb⟩; refine ⟨_, rfl, ?_⟩; have n0_ := Aside0.mk (Kd.R_below (by (with_reducible repeat (first | apply Kd.R_alloc | apply Kd.R_drewN | apply Kd.R_drew)); exact HO208.out) hb); have n1_ := Aside0.mk (below_step (by repeat (first | (with_reducible first | exact HB.out | apply below_alloc | apply pw_below_drewN | apply below_drew1) | exact HB.out)) hb); clear HO208; clear HB; have HO208 := n0_; have HB := n1_; clear n0_ n1_; (try clear hb); (try clear hb2); (try clear hk); (try clear hi)) | ((with_reducible refine gate_callee (f := 15) rfl ?_); refine goesL_ (some 41) rfl rfl Try.func15 (by kernel_rfl) rfl #[.slice A0 l0.length c0, .int .i64 a2, .int .i64 a3] rfl (by (try simp only [List.map_toArray, List.map_cons, List.map_nil]); first | done | rfl | (simp only [List.length_drop, List.length_take]; rfl)) ?_; (with_reducible refine (dirty_Has.calls kj4 _ _ l0 a2 a3 true _ ?side1 ?side2 A13.out).mono ?_); (case side1 => repeat (first | exact (Kd.C_below HR0.out HB.out) | (with_reducible refine Kd.C_alloc ?_ _) | (with_reducible refine Kd.C_drewN ?_ _) | (with_reducible refine Kd.C_drew ?_))); (case side2 => exact HC0.out); rintro e w26 ⟨rfl, hb⟩; refine ⟨_, rfl, ?_⟩; have n0_ := Aside0.mk (Kd.R_below (by (with_reducible repeat (first | apply Kd.R_alloc | apply Kd.R_drewN | apply Kd.R_drew)); exact HO208.out) hb); have n1_ := Aside0.mk (below_step (by repeat (first | (with_reducible first | exact HB.out | apply below_alloc | apply pw_below_drewN | apply below_drew1) | exact HB.out)) hb); clear HO208; clear HB; have HO208 := n0_; have HB := n1_; clear n0_ n1_; (try clear hb); (try clear hb2); (try clear hk); (try clear hi)) | (go_at_call 29; (with_reducible refine (dirty_Count.calls kj4 _ _ t205 t212 _ ?side1 ?side2 A16.out).mono ?_); (case side1 => repeat (first | exact (Kd.R_reads' HO208.out).2.2 | (with_reducible refine Kd.C_alloc ?_ _) | (with_reducible refine Kd.C_drewN ?_ _) | (with_reducible refine Kd.C_drew ?_))); (case side2 => exact (Kd.R_reads' HO208.out).2.1); rintro e w27 ⟨rfl, hb⟩; have n0_ := Aside0.mk (Kd.R_below (by (with_reducible repeat (first | apply Kd.R_alloc | apply Kd.R_drewN | apply Kd.R_drew)); exact HO208.out) hb); have n1_ := Aside0.mk (below_step (by repeat (first | (with_reducible first | exact HB.out | apply below_alloc | apply pw_below_drewN | apply below_drew1) | exact HB.out)) hb); clear HO208; clear HB; have HO208 := n0_; have HB := n1_; clear n0_ n1_; (try clear hb); (try clear hb2); (try clear hk); (try clear hi)) | (go_at_call 29; (with_reducible refine (dirty_Count.calls kj4 _ _ l0 t213 _ ?side1 ?side2 A17.out).mono ?_); (case side1 => repeat (first | exact (Kd.C_below HR0.out HB.out) | (with_reducible refine Kd.C_alloc ?_ _) | (with_reducible refine Kd.C_drewN ?_ _) | (with_reducible refine Kd.C_drew ?_))); (case side2 => exact HC0.out); rintro e w28 ⟨rfl, hb⟩; have n0_ := Aside0.mk (Kd.R_below (by (with_reducible repeat (first | apply Kd.R_alloc | apply Kd.R_drewN | apply Kd.R_drew)); exact HO208.out) hb); have n1_ := Aside0.mk (below_step (by repeat (first | (with_reducible first | exact HB.out | apply below_alloc | apply pw_below_drewN | apply below_drew1) | exact HB.out)) hb); clear HO208; clear HB; have HO208 := n0_; have HB := n1_; clear n0_ n1_; (try clear hb); (try clear hb2); (try clear hk); (try clear hi)) | (go_at_call 29; (with_reducible refine (dirty_Count.calls kj4 _ _ l1 t214 _ ?side1 ?side2 A18.out).mono ?_); (case side1 => repeat (first | exact (Kd.C_below HR1.out HB.out) | (with_reducible refine Kd.C_alloc ?_ _) | (with_reducible refine Kd.C_drewN ?_ _) | (with_reducible refine Kd.C_drew ?_))); (case side2 => exact HC1.out); rintro e w29 ⟨rfl, hb⟩; have n0_ := Aside0.mk (Kd.R_below (by (with_reducible repeat (first | apply Kd.R_alloc | apply Kd.R_drewN | apply Kd.R_drew)); exact HO208.out) hb); have n1_ := Aside0.mk (below_step (by repeat (first | (with_reducible first | exact HB.out | apply below_alloc | apply pw_below_drewN | apply below_drew1) | exact HB.out)) hb); clear HO208; clear HB; have HO208 := n0_; have HB := n1_; clear n0_ n1_; (try clear hb); (try clear hb2); (try clear hk); (try clear hi)) | (go_at_call 14; (with_reducible refine (dirty_Right.calls kj4 _ _ t205 true _ ?side1 ?side2 A20.out).mono ?_); (case side1 => repeat (first | exact (Kd.R_reads' HO208.out).2.2 | (with_reducible refine Kd.C_alloc ?_ _) | (with_reducible refine Kd.C_drewN ?_ _) | (with_reducible refine Kd.C_drew ?_))); (case side2 => exact (Kd.R_reads' HO208.out).2.1); rintro e w30 ⟨rfl, hb⟩; have n0_ := Aside0.mk (Kd.R_below (by (with_reducible repeat (first | apply Kd.R_alloc | apply Kd.R_drewN | apply Kd.R_drew)); exact HO208.out) hb); have n1_ := Aside0.mk (below_step (by repeat (first | (with_reducible first | exact HB.out | apply below_alloc | apply pw_below_drewN | apply below_drew1) | exact HB.out)) hb); clear HO208; clear HB; have HO208 := n0_; have HB := n1_; clear n0_ n1_; (try clear hb); (try clear hb2); (try clear hk); (try clear hi)) | (go_at_call 9; (with_reducible refine (counterfoillaw10_awake.calls  t216 _ A22.out).mono ?_); rintro e w31 ⟨rfl, hb⟩; have n0_ := Aside0.mk (Kd.R_below (by (with_reducible repeat (first | apply Kd.R_alloc | apply Kd.R_drewN | apply Kd.R_drew)); exact HO208.out) hb); have n1_ := Aside0.mk (below_step (by repeat (first | (with_reducible first | exact HB.out | apply below_alloc | apply pw_below_drewN | apply below_drew1) | exact HB.out)) hb); clear HO208; clear HB; have HO208 := n0_; have HB := n1_; clear n0_ n1_; (try clear hb); (try clear hb2); (try clear hk); (try clear hi)))
                  go_ret
                  exact ⟨by first | rfl | (simp [errW_none, errW_some] <;> rfl) | (simp [*, errW_none, errW_some] <;> rfl), by repeat (first | (with_reducible first | exact HB.out | apply below_alloc | apply pw_below_drewN | apply below_drew1) | exact HB.out)⟩
                · replace c21 := Bool.eq_false_iff.mpr c21
                  subst c21
                  have H1 : (some false) = some r := by rw [if_neg (show ¬ (false = true) by decide)] at H; exact H
                  clear H
                  have H := H1
                  clear H1
                  exact absurd H (by simp [hr_])
              · rw [if_neg c19] at H
                have c19b0 : decide (t212 ≤ (wrap64 (t213 + t214))) = false := decide_eq_false c19
                clear c19
                exact absurd H (by simp [hr_])
            · rw [if_neg c15] at H
              have c15b0 : (t210 == true) = false := by simpa using c15
              (try (have c15b1 : decide (t210 = true) = false := by simpa using c15))
              (try (have c15b2 : (t210 == true) = false := by simpa using c15))
              (try (have c15b3 : ¬ (t210 = true) := by simpa using c15))
              clear c15
              exact absurd H (by simp [hr_])
          · replace c14 := Bool.eq_false_iff.mpr c14
            subst c14
            have H1 : ((dirty_Has.f kj4 l1 a2 a3).bind fun t217 => (if (t210 == t217) = true then ((dirty_Count.f kj4 t205).bind fun t218 => ((dirty_Count.f kj4 l0).bind fun t219 => ((dirty_Count.f kj4 l1).bind fun t220 => (if t218 ≤ (wrap64 (t219 + t220)) then ((dirty_Right.f kj4 t205).bind fun t221 => (if t221 = true then ((counterfoillaw10_awake.f).bind fun t222 => (some t222)) else (some false))) else (some false))))) else (some false))) = some r := by rw [if_neg (show ¬ (false = true) by decide)] at H; exact H
            clear H
            have H := H1
            clear H1
            replace H := Option.bind_eq_some_iff.mp H
            obtain ⟨t217, A320, H⟩ := H
            replace H : (if (t210 == t217) = true then ((dirty_Count.f kj4 t205).bind fun t218 => ((dirty_Count.f kj4 l0).bind fun t219 => ((dirty_Count.f kj4 l1).bind fun t220 => (if t218 ≤ (wrap64 (t219 + t220)) then ((dirty_Right.f kj4 t205).bind fun t221 => (if t221 = true then ((counterfoillaw10_awake.f).bind fun t222 => (some t222)) else (some false))) else (some false))))) else (some false)) = some r := H
            have A32 := Aside0.mk A320
            clear A320
            by_cases c33 : (t210 == t217) = true
            · rw [if_pos c33] at H
              have c33b0 : (t210 == t217) = true := c33
              (try (have c33b1 : decide (t210 = t217) = true := by simpa using c33))
              (try (have c33b2 : (t210 == t217) = true := by simpa using c33))
              clear c33
              replace H := Option.bind_eq_some_iff.mp H
              obtain ⟨t218, A340, H⟩ := H
              replace H : ((dirty_Count.f kj4 l0).bind fun t219 => ((dirty_Count.f kj4 l1).bind fun t220 => (if t218 ≤ (wrap64 (t219 + t220)) then ((dirty_Right.f kj4 t205).bind fun t221 => (if t221 = true then ((counterfoillaw10_awake.f).bind fun t222 => (some t222)) else (some false))) else (some false)))) = some r := H
              have A34 := Aside0.mk A340
              clear A340
              replace H := Option.bind_eq_some_iff.mp H
              obtain ⟨t219, A350, H⟩ := H
              replace H : ((dirty_Count.f kj4 l1).bind fun t220 => (if t218 ≤ (wrap64 (t219 + t220)) then ((dirty_Right.f kj4 t205).bind fun t221 => (if t221 = true then ((counterfoillaw10_awake.f).bind fun t222 => (some t222)) else (some false))) else (some false))) = some r := H
              have A35 := Aside0.mk A350
              clear A350
              replace H := Option.bind_eq_some_iff.mp H
              obtain ⟨t220, A360, H⟩ := H
              replace H : (if t218 ≤ (wrap64 (t219 + t220)) then ((dirty_Right.f kj4 t205).bind fun t221 => (if t221 = true then ((counterfoillaw10_awake.f).bind fun t222 => (some t222)) else (some false))) else (some false)) = some r := H
              have A36 := Aside0.mk A360
              clear A360
              by_cases c37 : t218 ≤ (wrap64 (t219 + t220))
              · rw [if_pos c37] at H
                have c37b0 : decide (t218 ≤ (wrap64 (t219 + t220))) = true := decide_eq_true c37
                clear c37
                replace H := Option.bind_eq_some_iff.mp H
                obtain ⟨t221, A380, H⟩ := H
                replace H : (if t221 = true then ((counterfoillaw10_awake.f).bind fun t222 => (some t222)) else (some false)) = some r := H
                have A38 := Aside0.mk A380
                clear A380
                by_cases c39 : t221 = true
                · subst c39
                  have H1 : ((counterfoillaw10_awake.f).bind fun t222 => (some t222)) = some r := by rw [if_pos rfl] at H; exact H
                  clear H
                  have H := H1
                  clear H1
                  replace H := Option.bind_eq_some_iff.mp H
                  obtain ⟨t222, A400, H⟩ := H
                  replace H : (some t222) = some r := H
                  have A40 := Aside0.mk A400
                  clear A400
                  obtain rfl := Option.some.inj H
                  go_wp2_with (first | ((with_reducible refine gate_callee (f := 10) rfl ?_); refine goesL_ (some 23) rfl rfl Try.func10 (by kernel_rfl) rfl #[.slice A0 l0.length c0, .slice A1 l1.length c1] rfl (by (try simp only [List.map_toArray, List.map_cons, List.map_nil]); first | done | rfl | (simp only [List.length_drop, List.length_take]; rfl)) ?_; (with_reducible refine (dirty_Join.calls kj4 _ _ l0 _ _ l1 t205 t206 _ ?side1 ?side2 ?side3 ?side4 A10.out).mono ?_); (case side1 => repeat (first | exact (Kd.C_below HR0.out HB.out) | (with_reducible refine Kd.C_alloc ?_ _) | (with_reducible refine Kd.C_drewN ?_ _) | (with_reducible refine Kd.C_drew ?_))); (case side2 => exact HC0.out); (case side3 => repeat (first | exact (Kd.C_below HR1.out HB.out) | (with_reducible refine Kd.C_alloc ?_ _) | (with_reducible refine Kd.C_drewN ?_ _) | (with_reducible refine Kd.C_drew ?_))); (case side4 => exact HC1.out); rintro e w41 ⟨v207, rfl, ho0, hb⟩; refine ⟨_, rfl, ?_⟩; have n0_ := Aside0.mk (Kd.R_lower ho0 (below_size (by repeat (first | (with_reducible first | exact HB.out | apply below_alloc | apply pw_below_drewN | apply below_drew1) | exact HB.out)))); have n1_ := Aside0.mk (below_step (by repeat (first | (with_reducible first | exact HB.out | apply below_alloc | apply pw_below_drewN | apply below_drew1) | exact HB.out)) hb); clear HB; have HO208 := n0_; have HB := n1_; clear n0_ n1_; (try clear hb); (try clear hb2); (try clear hk); (try clear hi); (try clear ho0); obtain ⟨Ao42, co42, eo42⟩ := Kd.R_slice HO208.out; subst eo42) | ((with_reducible refine gate_callee (f := 15) rfl ?_); refine goesL_ (some 37) rfl rfl Try.func15 (by kernel_rfl) rfl #[.slice Ao42 t205.length co42, .int .i64 a2, .int .i64 a3] rfl (by (try simp only [List.map_toArray, List.map_cons, List.map_nil]); first | done | rfl | (simp only [List.length_drop, List.length_take]; rfl)) ?_; (with_reducible refine (dirty_Has.calls kj4 _ _ t205 a2 a3 t210 _ ?side1 ?side2 A12.out).mono ?_); (case side1 => repeat (first | exact (Kd.R_reads' HO208.out).2.2 | (with_reducible refine Kd.C_alloc ?_ _) | (with_reducible refine Kd.C_drewN ?_ _) | (with_reducible refine Kd.C_drew ?_))); (case side2 => exact (Kd.R_reads' HO208.out).2.1); rintro e w43 ⟨rfl, hb⟩; refine ⟨_, rfl, ?_⟩; have n0_ := Aside0.mk (Kd.R_below (by (with_reducible repeat (first | apply Kd.R_alloc | apply Kd.R_drewN | apply Kd.R_drew)); exact HO208.out) hb); have n1_ := Aside0.mk (below_step (by repeat (first | (with_reducible first | exact HB.out | apply below_alloc | apply pw_below_drewN | apply below_drew1) | exact HB.out)) hb); clear HO208; clear HB; have HO208 := n0_; have HB := n1_; clear n0_ n1_; (try clear hb); (try clear hb2); (try clear hk); (try clear hi)) | ((with_reducible refine gate_callee (f := 15) rfl ?_); refine goesL_ (some 41) rfl rfl Try.func15 (by kernel_rfl) rfl #[.slice A0 l0.length c0, .int .i64 a2, .int .i64 a3] rfl (by (try simp only [List.map_toArray, List.map_cons, List.map_nil]); first | done | rfl | (simp only [List.length_drop, List.length_take]; rfl)) ?_; (with_reducible refine (dirty_Has.calls kj4 _ _ l0 a2 a3 false _ ?side1 ?side2 A13.out).mono ?_); (case side1 => repeat (first | exact (Kd.C_below HR0.out HB.out) | (with_reducible refine Kd.C_alloc ?_ _) | (with_reducible refine Kd.C_drewN ?_ _) | (with_reducible refine Kd.C_drew ?_))); (case side2 => exact HC0.out); rintro e w44 ⟨rfl, hb⟩; refine ⟨_, rfl, ?_⟩; have n0_ := Aside0.mk (Kd.R_below (by (with_reducible repeat (first | apply Kd.R_alloc | apply Kd.R_drewN | apply Kd.R_drew)); exact HO208.out) hb); have n1_ := Aside0.mk (below_step (by repeat (first | (with_reducible first | exact HB.out | apply below_alloc | apply pw_below_drewN | apply below_drew1) | exact HB.out)) hb); clear HO208; clear HB; have HO208 := n0_; have HB := n1_; clear n0_ n1_; (try clear hb); (try clear hb2); (try clear hk); (try clear hi)) | (go_at_call 15; (with_reducible refine (dirty_Has.calls kj4 _ _ l1 a2 a3 t217 _ ?side1 ?side2 A32.out).mono ?_); (case side1 => repeat (first | exact (Kd.C_below HR1.out HB.out) | (with_reducible refine Kd.C_alloc ?_ _) | (with_reducible refine Kd.C_drewN ?_ _) | (with_reducible refine Kd.C_drew ?_))); (case side2 => exact HC1.out); rintro e w45 ⟨rfl, hb⟩; have n0_ := Aside0.mk (Kd.R_below (by (with_reducible repeat (first | apply Kd.R_alloc | apply Kd.R_drewN | apply Kd.R_drew)); exact HO208.out) hb); have n1_ := Aside0.mk (below_step (by repeat (first | (with_reducible first | exact HB.out | apply below_alloc | apply pw_below_drewN | apply below_drew1) | exact HB.out)) hb); clear HO208; clear HB; have HO208 := n0_; have HB := n1_; clear n0_ n1_; (try clear hb); (try clear hb2); (try clear hk); (try clear hi)) | (go_at_call 29; (with_reducible refine (dirty_Count.calls kj4 _ _ t205 t218 _ ?side1 ?side2 A34.out).mono ?_); (case side1 => repeat (first | exact (Kd.R_reads' HO208.out).2.2 | (with_reducible refine Kd.C_alloc ?_ _) | (with_reducible refine Kd.C_drewN ?_ _) | (with_reducible refine Kd.C_drew ?_))); (case side2 => exact (Kd.R_reads' HO208.out).2.1); rintro e w46 ⟨rfl, hb⟩; have n0_ := Aside0.mk (Kd.R_below (by (with_reducible repeat (first | apply Kd.R_alloc | apply Kd.R_drewN | apply Kd.R_drew)); exact HO208.out) hb); have n1_ := Aside0.mk (below_step (by repeat (first | (with_reducible first | exact HB.out | apply below_alloc | apply pw_below_drewN | apply below_drew1) | exact HB.out)) hb); clear HO208; clear HB; have HO208 := n0_; have HB := n1_; clear n0_ n1_; (try clear hb); (try clear hb2); (try clear hk); (try clear hi)) | (go_at_call 29; (with_reducible refine (dirty_Count.calls kj4 _ _ l0 t219 _ ?side1 ?side2 A35.out).mono ?_); (case side1 => repeat (first | exact (Kd.C_below HR0.out HB.out) | (with_reducible refine Kd.C_alloc ?_ _) | (with_reducible refine Kd.C_drewN ?_ _) | (with_reducible refine Kd.C_drew ?_))); (case side2 => exact HC0.out); rintro e w47 ⟨rfl, hb⟩; have n0_ := Aside0.mk (Kd.R_below (by (with_reducible repeat (first | apply Kd.R_alloc | apply Kd.R_drewN | apply Kd.R_drew)); exact HO208.out) hb); have n1_ := Aside0.mk (below_step (by repeat (first | (with_reducible first | exact HB.out | apply below_alloc | apply pw_below_drewN | apply below_drew1) | exact HB.out)) hb); clear HO208; clear HB; have HO208 := n0_; have HB := n1_; clear n0_ n1_; (try clear hb); (try clear hb2); (try clear hk); (try clear hi)) | (go_at_call 29; (with_reducible refine (dirty_Count.calls kj4 _ _ l1 t220 _ ?side1 ?side2 A36.out).mono ?_); (case side1 => repeat (first | exact (Kd.C_below HR1.out HB.out) | (with_reducible refine Kd.C_alloc ?_ _) | (with_reducible refine Kd.C_drewN ?_ _) | (with_reducible refine Kd.C_drew ?_))); (case side2 => exact HC1.out); rintro e w48 ⟨rfl, hb⟩; have n0_ := Aside0.mk (Kd.R_below (by (with_reducible repeat (first | apply Kd.R_alloc | apply Kd.R_drewN | apply Kd.R_drew)); exact HO208.out) hb); have n1_ := Aside0.mk (below_step (by repeat (first | (with_reducible first | exact HB.out | apply below_alloc | apply pw_below_drewN | apply below_drew1) | exact HB.out)) hb); clear HO208; clear HB; have HO208 := n0_; have HB := n1_; clear n0_ n1_; (try clear hb); (try clear hb2); (try clear hk); (try clear hi)) | (go_at_call 14; (with_reducible refine (dirty_Right.calls kj4 _ _ t205 true _ ?side1 ?side2 A38.out).mono ?_); (case side1 => repeat (first | exact (Kd.R_reads' HO208.out).2.2 | (with_reducible refine Kd.C_alloc ?_ _) | (with_reducible refine Kd.C_drewN ?_ _) | (with_reducible refine Kd.C_drew ?_))); (case side2 => exact (Kd.R_reads' HO208.out).2.1); rintro e w49 ⟨rfl, hb⟩; have n0_ := Aside0.mk (Kd.R_below (by (with_reducible repeat (first | apply Kd.R_alloc | apply Kd.R_drewN | apply Kd.R_drew)); exact HO208.out) hb); have n1_ := Aside0.mk (below_step (by repeat (first | (with_reducible first | exact HB.out | apply below_alloc | apply pw_below_drewN | apply below_drew1) | exact HB.out)) hb); clear HO208; clear HB; have HO208 := n0_; have HB := n1_; clear n0_ n1_; (try clear hb); (try clear hb2); (try clear hk); (try clear hi)) | (go_at_call 9; (with_reducible refine (counterfoillaw10_awake.calls  t222 _ A40.out).mono ?_); rintro e w50 ⟨rfl, hb⟩; have n0_ := Aside0.mk (Kd.R_below (by (with_reducible repeat (first | apply Kd.R_alloc | apply Kd.R_drewN | apply Kd.R_drew)); exact HO208.out) hb); have n1_ := Aside0.mk (below_step (by repeat (first | (with_reducible first | exact HB.out | apply below_alloc | apply pw_below_drewN | apply below_drew1) | exact HB.out)) hb); clear HO208; clear HB; have HO208 := n0_; have HB := n1_; clear n0_ n1_; (try clear hb); (try clear hb2); (try clear hk); (try clear hi)))
                  go_ret
                  exact ⟨by first | rfl | (simp [errW_none, errW_some] <;> rfl) | (simp [*, errW_none, errW_some] <;> rfl), by repeat (first | (with_reducible first | exact HB.out | apply below_alloc | apply pw_below_drewN | apply below_drew1) | exact HB.out)⟩
                · replace c39 := Bool.eq_false_iff.mpr c39
                  subst c39
                  have H1 : (some false) = some r := by rw [if_neg (show ¬ (false = true) by decide)] at H; exact H
                  clear H
                  have H := H1
                  clear H1
                  exact absurd H (by simp [hr_])
              · rw [if_neg c37] at H
                have c37b0 : decide (t218 ≤ (wrap64 (t219 + t220))) = false := decide_eq_false c37
                clear c37
                exact absurd H (by simp [hr_])
            · rw [if_neg c33] at H
              have c33b0 : (t210 == t217) = false := by simpa using c33
              (try (have c33b1 : decide (t210 = t217) = false := by simpa using c33))
              (try (have c33b2 : (t210 == t217) = false := by simpa using c33))
              (try (have c33b3 : ¬ (t210 = t217) := by simpa using c33))
              clear c33
              exact absurd H (by simp [hr_])
        · rw [if_neg c11] at H
          have c11b0 : (t206 == 0) = false := beq_eq_false_iff_ne.mpr c11
          have c11b1 : (t206 != 0) = true := bne_iff_ne.mpr c11
          by_cases c51 : (t205.length : Int) = 0
          · rw [if_pos c51] at H
            have c51b0 : ((t205.length : Int) == 0) = true := beq_iff_eq.mpr c51
            have c51b1 : ((t205.length : Int) != 0) = false := bne_eq_false_iff_eq.mpr c51
            clear c51
            replace H := Option.bind_eq_some_iff.mp H
            obtain ⟨t209, A520, H⟩ := H
            replace H : (some t209) = some r := H
            have A52 := Aside0.mk A520
            clear A520
            obtain rfl := Option.some.inj H
            go_wp2_with (first | ((with_reducible refine gate_callee (f := 10) rfl ?_); refine goesL_ (some 23) rfl rfl Try.func10 (by kernel_rfl) rfl #[.slice A0 l0.length c0, .slice A1 l1.length c1] rfl (by (try simp only [List.map_toArray, List.map_cons, List.map_nil]); first | done | rfl | (simp only [List.length_drop, List.length_take]; rfl)) ?_; (with_reducible refine (dirty_Join.calls kj4 _ _ l0 _ _ l1 t205 t206 _ ?side1 ?side2 ?side3 ?side4 A10.out).mono ?_); (case side1 => repeat (first | exact (Kd.C_below HR0.out HB.out) | (with_reducible refine Kd.C_alloc ?_ _) | (with_reducible refine Kd.C_drewN ?_ _) | (with_reducible refine Kd.C_drew ?_))); (case side2 => exact HC0.out); (case side3 => repeat (first | exact (Kd.C_below HR1.out HB.out) | (with_reducible refine Kd.C_alloc ?_ _) | (with_reducible refine Kd.C_drewN ?_ _) | (with_reducible refine Kd.C_drew ?_))); (case side4 => exact HC1.out); rintro e w53 ⟨v207, rfl, ho0, hb⟩; refine ⟨_, rfl, ?_⟩; have n0_ := Aside0.mk (Kd.R_lower ho0 (below_size (by repeat (first | (with_reducible first | exact HB.out | apply below_alloc | apply pw_below_drewN | apply below_drew1) | exact HB.out)))); have n1_ := Aside0.mk (below_step (by repeat (first | (with_reducible first | exact HB.out | apply below_alloc | apply pw_below_drewN | apply below_drew1) | exact HB.out)) hb); clear HB; have HO208 := n0_; have HB := n1_; clear n0_ n1_; (try clear hb); (try clear hb2); (try clear hk); (try clear hi); (try clear ho0); obtain ⟨Ao54, co54, eo54⟩ := Kd.R_slice HO208.out; subst eo54) | (go_at_call 9; (with_reducible refine (counterfoillaw10_awake.calls  t209 _ A52.out).mono ?_); rintro e w55 ⟨rfl, hb⟩; have n0_ := Aside0.mk (Kd.R_below (by (with_reducible repeat (first | apply Kd.R_alloc | apply Kd.R_drewN | apply Kd.R_drew)); exact HO208.out) hb); have n1_ := Aside0.mk (below_step (by repeat (first | (with_reducible first | exact HB.out | apply below_alloc | apply pw_below_drewN | apply below_drew1) | exact HB.out)) hb); clear HO208; clear HB; have HO208 := n0_; have HB := n1_; clear n0_ n1_; (try clear hb); (try clear hb2); (try clear hk); (try clear hi)))
            go_ret
            exact ⟨by first | rfl | (simp [errW_none, errW_some] <;> rfl) | (simp [*, errW_none, errW_some] <;> rfl), by repeat (first | (with_reducible first | exact HB.out | apply below_alloc | apply pw_below_drewN | apply below_drew1) | exact HB.out)⟩
          · rw [if_neg c51] at H
            have c51b0 : ((t205.length : Int) == 0) = false := beq_eq_false_iff_ne.mpr c51
            have c51b1 : ((t205.length : Int) != 0) = true := bne_iff_ne.mpr c51
            have c51b2 : ¬ (t205 = []) := fun h_ => c51 (by rw [h_]; rfl)
            exact absurd H (by simp [hr_])

/-- THE ONE PURE STATEMENT of counterfoillaw10_DirtyMore: yours. -/
def counterfoillaw10_DirtyMore.Pure : Prop := ∀ (l0 : List (S63)) (l1 : List (S63)) (a2 : Int) (a3 : Int), (l0.length * 16 ≤ 140737488351232 ∧ l0.length ≤ 9223372036854775807 ∧ ∀ y0 ∈ l0, ((Lit.int .i64 y0.f0).wf = true ∧ (Lit.int .u64 y0.f1).wf = true)) → (l1.length * 16 ≤ 140737488351232 ∧ l1.length ≤ 9223372036854775807 ∧ ∀ y0 ∈ l1, ((Lit.int .i64 y0.f0).wf = true ∧ (Lit.int .u64 y0.f1).wf = true)) → (Lit.int .i64 a2).wf = true → (Lit.int .i64 a3).wf = true → ∃ k, counterfoillaw10_DirtyMore.f k l0 l1 a2 a3 = some true

/-! ### octet_Get: function 38 -/
mutual
def octet_Get.j0 : Nat → ByteArray → Bool → Option (Int × Int)
  | 0, _, _ => none
  | k + 1, x0, x13 => if x13 = true then (some (0, 1)) else (octet_Get.l0 k x0 0 (x0.size : Int) 0)
def octet_Get.l0 : Nat → ByteArray → Int → Int → Int → Option (Int × Int)
  | 0, _, _, _, _ => none
  | k + 1, x0, x4, x15, x16 => if x16 < x15 then (if 0 ≤ x16 then (if x16 < (x0.size : Int) then (octet_Get.l0 k x0 (Go.bits .or .u64 (IntKind.u64.wrap (x4 * 256)) (IntKind.u64.wrap (bt x0 x16))) x15 (wrap64 (x16 + 1))) else (none)) else (none)) else (if x4 > 9223372036854775807 then (some (0, 10)) else (some (wrap64 (x4), 0)))
end
def octet_Get.f (k : Nat) (a0 : ByteArray) : Option (Int × Int) := if (a0.size : Int) < 1 then (octet_Get.j0 k a0 true) else (octet_Get.j0 k a0 (decide ((a0.size : Int) > 8)))
theorem octet_Get.mono_l : ∀ k, (∀ y0 y1, LeO (octet_Get.j0 k y0 y1) (octet_Get.j0 (k + 1) y0 y1)) ∧ (∀ y0 y1 y2 y3, LeO (octet_Get.l0 k y0 y1 y2 y3) (octet_Get.l0 (k + 1) y0 y1 y2 y3))
  | 0 => ⟨fun _ _ r h => by simp [octet_Get.j0] at h, fun _ _ _ _ r h => by simp [octet_Get.l0] at h⟩
  | k + 1 => by
    obtain ⟨ih0, ih1⟩ := octet_Get.mono_l k
    refine ⟨?_, ?_⟩
    · intro y0 y1
      unfold octet_Get.j0
      repeat' first
      | (with_reducible exact ih0 _ _)
      | (with_reducible exact ih1 _ _ _ _)
      | (with_reducible exact LeO.refl _)
      | (with_reducible exact LeO.none _)
      | (with_reducible refine LeO.ite ?_ ?_)
      | (with_reducible refine LeO.bind ?_ (fun _ => ?_))
      | exact ih0 _ _
      | exact ih1 _ _ _ _
      | exact LeO.none _
      | refine LeO.ite ?_ ?_
      | refine LeO.bind ?_ (fun _ => ?_)
    · intro y0 y1 y2 y3
      unfold octet_Get.l0
      repeat' first
      | (with_reducible exact ih0 _ _)
      | (with_reducible exact ih1 _ _ _ _)
      | (with_reducible exact LeO.refl _)
      | (with_reducible exact LeO.none _)
      | (with_reducible refine LeO.ite ?_ ?_)
      | (with_reducible refine LeO.bind ?_ (fun _ => ?_))
      | exact ih0 _ _
      | exact ih1 _ _ _ _
      | exact LeO.none _
      | refine LeO.ite ?_ ?_
      | refine LeO.bind ?_ (fun _ => ?_)
theorem octet_Get.mono : ∀ a0 k, LeO (octet_Get.f k a0) (octet_Get.f (k + 1) a0) := by
  intro a0 k
  obtain ⟨ih0, ih1⟩ := octet_Get.mono_l k
  unfold octet_Get.f
  repeat' first
      | (with_reducible exact ih0 _ _)
      | (with_reducible exact ih1 _ _ _ _)
      | (with_reducible exact LeO.refl _)
      | (with_reducible exact LeO.none _)
      | (with_reducible refine LeO.ite ?_ ?_)
      | (with_reducible refine LeO.bind ?_ (fun _ => ?_))
      | exact ih0 _ _
      | exact ih1 _ _ _ _
      | exact LeO.none _
      | refine LeO.ite ?_ ?_
      | refine LeO.bind ?_ (fun _ => ?_)
set_option maxHeartbeats 8000000 in
set_option maxRecDepth 100000 in
theorem octet_Get.calls (k : Nat) (a0 : ByteArray) (r1 : Int) (r2 : Int) (w : World) (h : octet_Get.f k a0 = some (r1, r2)) :
    Calls Try.prog 38 #[.string a0] w fun e w' => e = .returned (.tuple #[.int .i64 r1, .int .i64 r2]) ∧ Drawn0 w w' := by
  have H : (if (a0.size : Int) < 1 then (octet_Get.j0 k a0 true) else (octet_Get.j0 k a0 (decide ((a0.size : Int) > 8)))) = some (r1, r2) := h
  clear h
  have HC2 := Aside0.mk H
  clear H
  go_enter Try.func38, Try.ntmps38
  go_upto_region 1 with (fail)
  go_cut [13] (fun v13 wc => ∃ (kq : Nat) (x13_1 : Bool), v13 = .bool x13_1 ∧ Aside0 (octet_Get.j0 kq a0 x13_1 = some (r1, r2)) ∧ Aside0 (kq ≤ k) ∧ Drawn0 w wc)
  case first =>
    have H := HC2.out
    clear HC2
    by_cases c3 : (a0.size : Int) < 1
    · rw [if_pos c3] at H
      have c3b0 : decide ((a0.size : Int) < 1) = true := decide_eq_true c3
      have c3b1 : decide (a0.size < 1) = true := decide_eq_true (by omega)
      clear c3
      (first | rw [c3b0] | (simp only [i64_w, i32_w]; rw [c3b0]) | skip)
      have H' := Aside0.mk H
      clear H
      go_wp2
      go_meet
      case rel => exact ⟨_, (true), (by first | rfl | (simp; done) | (simp [*]; done)), H', ⟨by first | omega | exact Nat.le_refl _⟩, by repeat (first | exact Drawn0.refl _ | apply Drawn0.step)⟩
    · rw [if_neg c3] at H
      have c3b0 : decide ((a0.size : Int) < 1) = false := decide_eq_false c3
      have c3b1 : decide (a0.size < 1) = false := decide_eq_false (by omega)
      clear c3
      (first | rw [c3b0] | (simp only [i64_w, i32_w]; rw [c3b0]) | skip)
      have H' := Aside0.mk H
      clear H
      go_wp2
      go_meet
      case rel => exact ⟨_, (decide ((a0.size : Int) > 8)), (by first | rfl | (simp; done) | (simp [*]; done)), H', ⟨by first | omega | exact Nat.le_refl _⟩, by repeat (first | exact Drawn0.refl _ | apply Drawn0.step)⟩
  case rest =>
    clear HC2
    try clear p2
    try clear c3
    try clear c3b0
    try clear c3b1
    obtain ⟨kq, x13_1, rfl, HA, HJ1, ⟨mc1, rfl⟩⟩ := hcut
    cases kq with
    | zero => exact absurd HA.out (by simp [octet_Get.j0])
    | succ kj1 =>
      have H := HA.out
      clear HA
      simp only [octet_Get.j0] at H
      by_cases c4 : x13_1 = true
      · subst c4
        have H1 : (some (0, 1)) = some (r1, r2) := by rw [if_pos rfl] at H; exact H
        clear H
        have H := H1
        clear H1
        simp only [Option.some.injEq, Prod.mk.injEq] at H
        obtain ⟨rfl, rfl⟩ := H
        go_wp2
        go_ret2
        exact ⟨by first | rfl | (simp; done) | (simp [*]; done), by repeat (first | exact Drawn0.refl _ | apply Drawn0.step)⟩
      · replace c4 := Bool.eq_false_iff.mpr c4
        subst c4
        have H1 : (octet_Get.l0 kj1 a0 0 (a0.size : Int) 0) = some (r1, r2) := by rw [if_neg (show ¬ (false = true) by decide)] at H; exact H
        clear H
        have H := H1
        clear H1
        have H' := Aside0.mk H
        clear H
        go_wp2
        go_loopg [4, 16] kj1 (fun kq v4 v16 w' => ∃ (x4_2 : Int) (x16_2 : Int), v4 = .int .u64 x4_2 ∧ v16 = .int .i64 x16_2 ∧ Aside0 (octet_Get.l0 kq a0 x4_2 (a0.size : Int) x16_2 = some (r1, r2)) ∧ Aside0 (kq ≤ kj1) ∧ Drawn0 w w')
        case atStart => exact ⟨(0), (0), (by first | rfl | (simp; done) | (simp [*]; done)), (by first | rfl | (simp; done) | (simp [*]; done)), H', ⟨Nat.le_refl _⟩, by repeat (first | exact Drawn0.refl _ | apply Drawn0.step)⟩
        case round =>
          clear H'
          try clear c1
          try clear p2
          try clear c3
          try clear c3b0
          try clear c3b1
          try clear c4
          try clear p2
          obtain ⟨x4_2, x16_2, rfl, rfl, HA, HK2, ⟨m2, rfl⟩⟩ := hrel
          cases gk with
          | zero => exact absurd HA.out (by simp [octet_Get.l0])
          | succ k2 =>
            have H := HA.out
            clear HA
            simp only [octet_Get.l0] at H
            by_cases c5 : x16_2 < (a0.size : Int)
            · rw [if_pos c5] at H
              have c5b0 : decide (x16_2 < (a0.size : Int)) = true := decide_eq_true c5
              clear c5
              by_cases c6 : 0 ≤ x16_2
              · rw [if_pos c6] at H
                have c6b0 : decide (0 ≤ x16_2) = true := decide_eq_true c6
                clear c6
                by_cases c7 : x16_2 < (a0.size : Int)
                · rw [if_pos c7] at H
                  have c7b0 : decide (x16_2 < (a0.size : Int)) = true := decide_eq_true c7
                  clear c7
                  have H' := Aside0.mk H
                  clear H
                  have p8 : 0 ≤ (x16_2 : Int) := of_decide_eq_true (by first | (with_reducible assumption) | assumption)
                  have q8 : x16_2 < (a0.size : Int) := of_decide_eq_true (by first | (with_reducible assumption) | assumption)
                  have hx8 := bt_at a0 x16_2
                  replace p8 := eq_true p8
                  replace q8 := eq_true q8
                  go_wp2
                  go_roundg k2
                  case measure => have := HJ1.out; have := HK2.out; omega
                  case rel => exact ⟨(Go.bits .or .u64 (IntKind.u64.wrap (x4_2 * 256)) (IntKind.u64.wrap (bt a0 x16_2))), (wrap64 (x16_2 + 1)), (by first | rfl | (simp; done) | (simp [*]; done)), (by first | rfl | (simp; done) | (simp [*]; done)), H', ⟨by have := HJ1.out; have := HK2.out; omega⟩, by repeat (first | exact Drawn0.refl _ | apply Drawn0.step)⟩
                · rw [if_neg c7] at H
                  exact absurd H (by simp)
              · rw [if_neg c6] at H
                exact absurd H (by simp)
            · rw [if_neg c5] at H
              have c5b0 : decide (x16_2 < (a0.size : Int)) = false := decide_eq_false c5
              clear c5
              by_cases c9 : x4_2 > 9223372036854775807
              · rw [if_pos c9] at H
                have c9b0 : decide (9223372036854775807 < x4_2) = true := decide_eq_true c9
                clear c9
                simp only [Option.some.injEq, Prod.mk.injEq] at H
                obtain ⟨rfl, rfl⟩ := H
                go_wp2
                go_ret2
                exact ⟨by first | rfl | (simp; done) | (simp [*]; done), by repeat (first | exact Drawn0.refl _ | apply Drawn0.step)⟩
              · rw [if_neg c9] at H
                have c9b0 : decide (9223372036854775807 < x4_2) = false := decide_eq_false c9
                clear c9
                simp only [Option.some.injEq, Prod.mk.injEq] at H
                obtain ⟨rfl, rfl⟩ := H
                go_wp2
                go_ret2
                exact ⟨by first | rfl | (simp; done) | (simp [*]; done), by repeat (first | exact Drawn0.refl _ | apply Drawn0.step)⟩

/-! ### octet_Number: function 37 -/
def octet_Number.j0 : Nat → ByteArray → Int → Bool → Option (Int × ByteArray × Int)
  | 0, _, _, _ => none
  | k + 1, x0, x1, x9 => if x9 = true then (some (0, (⟨#[]⟩ : ByteArray), 1)) else (if (x0.size : Int) < x1 then (some (0, (⟨#[]⟩ : ByteArray), 2)) else (if 0 ≤ x1 then (if x1 ≤ (x0.size : Int) then ((octet_Get.f k (x0.extract 0 (x1 : Int).toNat)).bind fun bt223 => (if bt223.2 = 0 then (some (bt223.1, x0.extract (x1 : Int).toNat x0.size, 0)) else (some (0, (⟨#[]⟩ : ByteArray), bt223.2)))) else (none)) else (none)))
def octet_Number.f (k : Nat) (a0 : ByteArray) (a1 : Int) : Option (Int × ByteArray × Int) := if a1 < 1 then (octet_Number.j0 k a0 a1 true) else (octet_Number.j0 k a0 a1 (decide (a1 > 8)))
theorem octet_Number.mono_l : ∀ k, (∀ y0 y1 y2, LeO (octet_Number.j0 k y0 y1 y2) (octet_Number.j0 (k + 1) y0 y1 y2))
  | 0 => fun _ _ _ r h => by simp [octet_Number.j0] at h
  | k + 1 => by
    have ih0 := octet_Number.mono_l k
    · intro y0 y1 y2
      unfold octet_Number.j0
      repeat' first
      | (with_reducible exact ih0 _ _ _)
      | (with_reducible exact octet_Get.mono _ _)
      | (with_reducible exact LeO.refl _)
      | (with_reducible exact LeO.none _)
      | (with_reducible refine LeO.ite ?_ ?_)
      | (with_reducible refine LeO.bind ?_ (fun _ => ?_))
      | exact ih0 _ _ _
      | exact octet_Get.mono _ _
      | exact LeO.none _
      | refine LeO.ite ?_ ?_
      | refine LeO.bind ?_ (fun _ => ?_)
theorem octet_Number.mono : ∀ a0 a1 k, LeO (octet_Number.f k a0 a1) (octet_Number.f (k + 1) a0 a1) := by
  intro a0 a1 k
  have ih0 := octet_Number.mono_l k
  unfold octet_Number.f
  repeat' first
      | (with_reducible exact ih0 _ _ _)
      | (with_reducible exact octet_Get.mono _ _)
      | (with_reducible exact LeO.refl _)
      | (with_reducible exact LeO.none _)
      | (with_reducible refine LeO.ite ?_ ?_)
      | (with_reducible refine LeO.bind ?_ (fun _ => ?_))
      | exact ih0 _ _ _
      | exact octet_Get.mono _ _
      | exact LeO.none _
      | refine LeO.ite ?_ ?_
      | refine LeO.bind ?_ (fun _ => ?_)
set_option maxHeartbeats 8000000 in
set_option maxRecDepth 100000 in
theorem octet_Number.calls (k : Nat) (a0 : ByteArray) (a1 : Int) (r1 : Int) (r2 : ByteArray) (r3 : Int) (w : World) (h : octet_Number.f k a0 a1 = some (r1, r2, r3)) :
    Calls Try.prog 37 #[.string a0, .int .i64 a1] w fun e w' => e = .returned (.tuple #[.int .i64 r1, .string r2, .int .i64 r3]) ∧ Drawn0 w w' := by
  have H : (if a1 < 1 then (octet_Number.j0 k a0 a1 true) else (octet_Number.j0 k a0 a1 (decide (a1 > 8)))) = some (r1, r2, r3) := h
  clear h
  have HC3 := Aside0.mk H
  clear H
  go_enter Try.func37, Try.ntmps37
  go_upto_region 1 with (fail)
  repeat (go_quiet (fail); go_upto_region 1 with (fail))
  go_cut [9] (fun v9 wc => ∃ (kq : Nat) (x9_2 : Bool), v9 = .bool x9_2 ∧ Aside0 (octet_Number.j0 kq a0 a1 x9_2 = some (r1, r2, r3)) ∧ Aside0 (kq ≤ k) ∧ Drawn0 w wc)
  case first =>
    have H := HC3.out
    clear HC3
    by_cases c4 : a1 < 1
    · rw [if_pos c4] at H
      have c4b0 : decide (a1 < 1) = true := decide_eq_true c4
      clear c4
      (first | rw [c4b0] | (simp only [i64_w, i32_w]; rw [c4b0]) | skip)
      have H' := Aside0.mk H
      clear H
      go_wp2
      repeat (go_quiet (fail); try go_wp2)
      go_meet
      case rel => exact ⟨_, (true), (by first | rfl | (simp; done) | (simp [*]; done)), H', ⟨by first | omega | exact Nat.le_refl _⟩, by repeat (first | exact Drawn0.refl _ | apply Drawn0.step)⟩
    · rw [if_neg c4] at H
      have c4b0 : decide (a1 < 1) = false := decide_eq_false c4
      clear c4
      (first | rw [c4b0] | (simp only [i64_w, i32_w]; rw [c4b0]) | skip)
      have H' := Aside0.mk H
      clear H
      go_wp2
      repeat (go_quiet (fail); try go_wp2)
      go_meet
      case rel => exact ⟨_, (decide (a1 > 8)), (by first | rfl | (simp; done) | (simp [*]; done)), H', ⟨by first | omega | exact Nat.le_refl _⟩, by repeat (first | exact Drawn0.refl _ | apply Drawn0.step)⟩
  case rest =>
    clear HC3
    try clear p2
    try clear c3
    try clear c4
    try clear c4b0
    obtain ⟨kq, x9_2, rfl, HA, HJ2, ⟨mc2, rfl⟩⟩ := hcut
    cases kq with
    | zero => exact absurd HA.out (by simp [octet_Number.j0])
    | succ kj2 =>
      have H := HA.out
      clear HA
      simp only [octet_Number.j0] at H
      by_cases c5 : x9_2 = true
      · subst c5
        have H1 : (some (0, (⟨#[]⟩ : ByteArray), 1)) = some (r1, r2, r3) := by rw [if_pos rfl] at H; exact H
        clear H
        have H := H1
        clear H1
        simp only [Option.some.injEq, Prod.mk.injEq] at H
        obtain ⟨rfl, rfl, rfl⟩ := H
        go_wp2
        repeat (go_quiet (fail); try go_wp2)
        go_ret3
        exact ⟨by first | rfl | (simp; done) | (simp [*]; done), by repeat (first | exact Drawn0.refl _ | apply Drawn0.step)⟩
      · replace c5 := Bool.eq_false_iff.mpr c5
        subst c5
        have H1 : (if (a0.size : Int) < a1 then (some (0, (⟨#[]⟩ : ByteArray), 2)) else (if 0 ≤ a1 then (if a1 ≤ (a0.size : Int) then ((octet_Get.f kj2 (a0.extract 0 (a1 : Int).toNat)).bind fun bt223 => (if bt223.2 = 0 then (some (bt223.1, a0.extract (a1 : Int).toNat a0.size, 0)) else (some (0, (⟨#[]⟩ : ByteArray), bt223.2)))) else (none)) else (none))) = some (r1, r2, r3) := by rw [if_neg (show ¬ (false = true) by decide)] at H; exact H
        clear H
        have H := H1
        clear H1
        by_cases c6 : (a0.size : Int) < a1
        · rw [if_pos c6] at H
          have c6b0 : decide ((a0.size : Int) < a1) = true := decide_eq_true c6
          clear c6
          simp only [Option.some.injEq, Prod.mk.injEq] at H
          obtain ⟨rfl, rfl, rfl⟩ := H
          go_wp2
          repeat (go_quiet (fail); try go_wp2)
          go_ret3
          exact ⟨by first | rfl | (simp; done) | (simp [*]; done), by repeat (first | exact Drawn0.refl _ | apply Drawn0.step)⟩
        · rw [if_neg c6] at H
          have c6b0 : decide ((a0.size : Int) < a1) = false := decide_eq_false c6
          clear c6
          by_cases c7 : 0 ≤ a1
          · rw [if_pos c7] at H
            have c7b0 := eq_true c7
            have c7b1 : decide (0 ≤ a1) = true := decide_eq_true c7
            clear c7
            by_cases c8 : a1 ≤ (a0.size : Int)
            · rw [if_pos c8] at H
              have c8b0 := eq_true c8
              have c8b1 : decide (a1 ≤ (a0.size : Int)) = true := decide_eq_true c8
              clear c8
              replace H := Option.bind_eq_some_iff.mp H
              obtain ⟨⟨t223, t224⟩, A90, H⟩ := H
              replace H : (if t224 = 0 then (some (t223, a0.extract (a1 : Int).toNat a0.size, 0)) else (some (0, (⟨#[]⟩ : ByteArray), t224))) = some (r1, r2, r3) := H
              have A9 := Aside0.mk A90
              clear A90
              by_cases c10 : t224 = 0
              · rw [if_pos c10] at H
                have c10b0 : (t224 == 0) = true := beq_iff_eq.mpr c10
                have c10b1 : (t224 != 0) = false := bne_eq_false_iff_eq.mpr c10
                clear c10
                have c11b0 := eq_true (of_decide_eq_true (by first | (with_reducible assumption) | assumption) : 0 ≤ a1)
                have c12b0 := eq_true (of_decide_eq_true (by first | (with_reducible assumption) | assumption) : a1 ≤ (a0.size : Int))
                simp only [Option.some.injEq, Prod.mk.injEq] at H
                obtain ⟨rfl, rfl, rfl⟩ := H
                go_wp2_with (first | (go_at_call 38; (with_reducible refine (octet_Get.calls kj2 (a0.extract 0 (a1 : Int).toNat) t223 t224 _ A9.out).mono ?_); rintro e w' ⟨rfl, ⟨nd, rfl⟩⟩; (try first | exact ⟨rfl, _, World.drewN_drewN _ _ _⟩ | exact ⟨rfl, _, Eq.trans (World.drewN_drewN _ _ _) (congrArg (World.drewN _) (Nat.add_assoc _ _ _))⟩)))
                repeat (go_quiet (first | (go_at_call 38; (with_reducible refine (octet_Get.calls kj2 (a0.extract 0 (a1 : Int).toNat) t223 t224 _ A9.out).mono ?_); rintro e w' ⟨rfl, ⟨nd, rfl⟩⟩; (try first | exact ⟨rfl, _, World.drewN_drewN _ _ _⟩ | exact ⟨rfl, _, Eq.trans (World.drewN_drewN _ _ _) (congrArg (World.drewN _) (Nat.add_assoc _ _ _))⟩))); try go_wp2_with (first | (go_at_call 38; (with_reducible refine (octet_Get.calls kj2 (a0.extract 0 (a1 : Int).toNat) t223 t224 _ A9.out).mono ?_); rintro e w' ⟨rfl, ⟨nd, rfl⟩⟩; (try first | exact ⟨rfl, _, World.drewN_drewN _ _ _⟩ | exact ⟨rfl, _, Eq.trans (World.drewN_drewN _ _ _) (congrArg (World.drewN _) (Nat.add_assoc _ _ _))⟩))))
                go_ret3
                exact ⟨by first | rfl | (simp; done) | (simp [*]; done), by repeat (first | exact Drawn0.refl _ | apply Drawn0.step)⟩
              · rw [if_neg c10] at H
                have c10b0 : (t224 == 0) = false := beq_eq_false_iff_ne.mpr c10
                have c10b1 : (t224 != 0) = true := bne_iff_ne.mpr c10
                simp only [Option.some.injEq, Prod.mk.injEq] at H
                obtain ⟨rfl, rfl, rfl⟩ := H
                go_wp2_with (first | (go_at_call 38; (with_reducible refine (octet_Get.calls kj2 (a0.extract 0 (a1 : Int).toNat) t223 t224 _ A9.out).mono ?_); rintro e w' ⟨rfl, ⟨nd, rfl⟩⟩; (try first | exact ⟨rfl, _, World.drewN_drewN _ _ _⟩ | exact ⟨rfl, _, Eq.trans (World.drewN_drewN _ _ _) (congrArg (World.drewN _) (Nat.add_assoc _ _ _))⟩)))
                repeat (go_quiet (first | (go_at_call 38; (with_reducible refine (octet_Get.calls kj2 (a0.extract 0 (a1 : Int).toNat) t223 t224 _ A9.out).mono ?_); rintro e w' ⟨rfl, ⟨nd, rfl⟩⟩; (try first | exact ⟨rfl, _, World.drewN_drewN _ _ _⟩ | exact ⟨rfl, _, Eq.trans (World.drewN_drewN _ _ _) (congrArg (World.drewN _) (Nat.add_assoc _ _ _))⟩))); try go_wp2_with (first | (go_at_call 38; (with_reducible refine (octet_Get.calls kj2 (a0.extract 0 (a1 : Int).toNat) t223 t224 _ A9.out).mono ?_); rintro e w' ⟨rfl, ⟨nd, rfl⟩⟩; (try first | exact ⟨rfl, _, World.drewN_drewN _ _ _⟩ | exact ⟨rfl, _, Eq.trans (World.drewN_drewN _ _ _) (congrArg (World.drewN _) (Nat.add_assoc _ _ _))⟩))))
                go_ret3
                exact ⟨by first | rfl | (simp; done) | (simp [*]; done), by repeat (first | exact Drawn0.refl _ | apply Drawn0.step)⟩
            · rw [if_neg c8] at H
              exact absurd H (by simp)
          · rw [if_neg c7] at H
            exact absurd H (by simp)

end Go.Proofs.Ytcigkejiompieaa.P
