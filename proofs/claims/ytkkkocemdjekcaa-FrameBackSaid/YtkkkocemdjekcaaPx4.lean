-- Printed by this session's own program wip/mprint.py
import Derived.Test.YtkkkocemdjekcaaPx0
import Derived.Test.YtkkkocemdjekcaaPx1
import Derived.Test.YtkkkocemdjekcaaPx2
import Derived.Test.YtkkkocemdjekcaaPx3
namespace Go.Proofs.Ytkkkocemdjekcaa.P
open Go.RowKit Go.Proofs.YtkkkocemdjekcaaW.PrintWords Go.Proofs.YtkkkocemdjekcaaW.PrintLast Go.Proofs.YtkkkocemdjekcaaW.PrintMore
attribute [local go_sem] max2_int min2_int max_two min_two max_three min_three max_four min_four   -- for this text's walks alone
set_option linter.unusedVariables false
set_option linter.unusedSimpArgs false

/-! ### counterfoillaw03_FrameOpens: function 4 -/
def counterfoillaw03_FrameOpens.f (k : Nat) (a0 : ByteArray) : Option (Bool) := (frame_Open.f k a0).bind fun bt138 => ((counterfoilref03_Open.f k a0).bind fun bt141 => (if bt138.1 = bt141.1 then (if bt138.2.1.toList = bt141.2.1.toList then (if bt138.2.2 = bt141.2.2 then ((counterfoillaw03_awake.f k).bind fun t144 => (some t144)) else (some false)) else (some false)) else (some false)))
theorem counterfoillaw03_FrameOpens.mono : ∀ a0 k, LeO (counterfoillaw03_FrameOpens.f k a0) (counterfoillaw03_FrameOpens.f (k + 1) a0) := by
  intro a0 k
  unfold counterfoillaw03_FrameOpens.f
  repeat' first
      | (with_reducible exact counterfoillaw03_awake.mono _)
      | (with_reducible exact counterfoilref03_Open.mono _ _)
      | (with_reducible exact frame_Open.mono _ _)
      | (with_reducible exact LeO.refl _)
      | (with_reducible exact LeO.none _)
      | (with_reducible refine LeO.ite ?_ ?_)
      | (with_reducible refine LeO.bind ?_ (fun _ => ?_))
      | exact counterfoillaw03_awake.mono _
      | exact counterfoilref03_Open.mono _ _
      | exact frame_Open.mono _ _
      | exact LeO.none _
      | refine LeO.ite ?_ ?_
      | refine LeO.bind ?_ (fun _ => ?_)
set_option maxHeartbeats 8000000 in
set_option maxRecDepth 100000 in
theorem counterfoillaw03_FrameOpens.calls (k : Nat) (a0 : ByteArray) (r : Bool) (w : World) (h : counterfoillaw03_FrameOpens.f k a0 = some r) :
    Calls Try.prog 4 #[.string a0] w fun e w' => e = .returned (.bool r) ∧ Below w.heap.size w w' := by
  have HB := Aside0.mk (Below.refl w.heap.size w)
  have H : ((frame_Open.f k a0).bind fun bt138 => ((counterfoilref03_Open.f k a0).bind fun bt141 => (if bt138.1 = bt141.1 then (if bt138.2.1.toList = bt141.2.1.toList then (if bt138.2.2 = bt141.2.2 then ((counterfoillaw03_awake.f k).bind fun t144 => (some t144)) else (some false)) else (some false)) else (some false)))) = some r := h
  clear h
  replace H := Option.bind_eq_some_iff.mp H
  obtain ⟨⟨t138, t139, t140⟩, A20, H⟩ := H
  replace H : ((counterfoilref03_Open.f k a0).bind fun bt141 => (if t138 = bt141.1 then (if t139.toList = bt141.2.1.toList then (if t140 = bt141.2.2 then ((counterfoillaw03_awake.f k).bind fun t144 => (some t144)) else (some false)) else (some false)) else (some false))) = some r := H
  have A2 := Aside0.mk A20
  clear A20
  replace H := Option.bind_eq_some_iff.mp H
  obtain ⟨⟨t141, t142, t143⟩, A30, H⟩ := H
  replace H : (if t138 = t141 then (if t139.toList = t142.toList then (if t140 = t143 then ((counterfoillaw03_awake.f k).bind fun t144 => (some t144)) else (some false)) else (some false)) else (some false)) = some r := H
  have A3 := Aside0.mk A30
  clear A30
  by_cases c4 : t138 = t141
  · rw [if_pos c4] at H
    have c4b0 : (t138 == t141) = true := beq_iff_eq.mpr c4
    have c4b1 : (t138 != t141) = false := bne_eq_false_iff_eq.mpr c4
    clear c4
    by_cases c5 : t139.toList = t142.toList
    · rw [if_pos c5] at H
      have c5b0 : (t139.toList == t142.toList) = true := beq_iff_eq.mpr c5
      have c5b1 : (t139.toList != t142.toList) = false := bne_eq_false_iff_eq.mpr c5
      clear c5
      by_cases c6 : t140 = t143
      · rw [if_pos c6] at H
        have c6b0 : (t140 == t143) = true := beq_iff_eq.mpr c6
        have c6b1 : (t140 != t143) = false := bne_eq_false_iff_eq.mpr c6
        clear c6
        replace H := Option.bind_eq_some_iff.mp H
        obtain ⟨t144, A70, H⟩ := H
        replace H : (some t144) = some r := H
        have A7 := Aside0.mk A70
        clear A70
        obtain rfl := Option.some.inj H
        go_enter Try.func4, Try.ntmps4
        go_wp2_with (first | ((with_reducible refine gate_callee (f := 12) rfl ?_); refine goesL_ (some 11) rfl rfl Try.func12 (by kernel_rfl) rfl #[.string a0] rfl (by (try simp only [List.map_toArray, List.map_cons, List.map_nil]); first | done | rfl | (simp only [List.length_drop, List.length_take]; rfl)) ?_; (with_reducible refine (frame_Open.calls k a0 t138 t139 t140 _ A2.out).mono ?_); rintro e w8 ⟨rfl, hb⟩; refine ⟨_, rfl, ?_⟩; have n0_ := Aside0.mk (below_step (by repeat (first | (with_reducible first | exact HB.out | apply below_alloc | apply pw_below_drewN | apply below_drew1) | exact HB.out)) hb); clear HB; have HB := n0_; clear n0_; (try clear hb); (try clear hb2); (try clear hk); (try clear hi)) | ((with_reducible refine gate_callee (f := 13) rfl ?_); refine goesL_ (some 17) rfl rfl Try.func13 (by kernel_rfl) rfl #[.string a0] rfl (by (try simp only [List.map_toArray, List.map_cons, List.map_nil]); first | done | rfl | (simp only [List.length_drop, List.length_take]; rfl)) ?_; (with_reducible refine (counterfoilref03_Open.calls k a0 t141 t142 t143 _ A3.out).mono ?_); rintro e w9 ⟨rfl, hb⟩; refine ⟨_, rfl, ?_⟩; have n0_ := Aside0.mk (below_step (by repeat (first | (with_reducible first | exact HB.out | apply below_alloc | apply pw_below_drewN | apply below_drew1) | exact HB.out)) hb); clear HB; have HB := n0_; clear n0_; (try clear hb); (try clear hb2); (try clear hk); (try clear hi)) | (go_at_call 11; (with_reducible refine (counterfoillaw03_awake.calls k  t144 _ A7.out).mono ?_); rintro e w10 ⟨rfl, hb⟩; have n0_ := Aside0.mk (below_step (by repeat (first | (with_reducible first | exact HB.out | apply below_alloc | apply pw_below_drewN | apply below_drew1) | exact HB.out)) hb); clear HB; have HB := n0_; clear n0_; (try clear hb); (try clear hb2); (try clear hk); (try clear hi)))
        go_ret
        exact ⟨by first | rfl | (simp [errW_none, errW_some] <;> rfl) | (simp [*, errW_none, errW_some] <;> rfl), by repeat (first | (with_reducible first | exact HB.out | apply below_alloc | apply pw_below_drewN | apply below_drew1) | exact HB.out)⟩
      · rw [if_neg c6] at H
        have c6b0 : (t140 == t143) = false := beq_eq_false_iff_ne.mpr c6
        have c6b1 : (t140 != t143) = true := bne_iff_ne.mpr c6
        obtain rfl := Option.some.inj H
        go_enter Try.func4, Try.ntmps4
        go_wp2_with (first | ((with_reducible refine gate_callee (f := 12) rfl ?_); refine goesL_ (some 11) rfl rfl Try.func12 (by kernel_rfl) rfl #[.string a0] rfl (by (try simp only [List.map_toArray, List.map_cons, List.map_nil]); first | done | rfl | (simp only [List.length_drop, List.length_take]; rfl)) ?_; (with_reducible refine (frame_Open.calls k a0 t138 t139 t140 _ A2.out).mono ?_); rintro e w11 ⟨rfl, hb⟩; refine ⟨_, rfl, ?_⟩; have n0_ := Aside0.mk (below_step (by repeat (first | (with_reducible first | exact HB.out | apply below_alloc | apply pw_below_drewN | apply below_drew1) | exact HB.out)) hb); clear HB; have HB := n0_; clear n0_; (try clear hb); (try clear hb2); (try clear hk); (try clear hi)) | ((with_reducible refine gate_callee (f := 13) rfl ?_); refine goesL_ (some 17) rfl rfl Try.func13 (by kernel_rfl) rfl #[.string a0] rfl (by (try simp only [List.map_toArray, List.map_cons, List.map_nil]); first | done | rfl | (simp only [List.length_drop, List.length_take]; rfl)) ?_; (with_reducible refine (counterfoilref03_Open.calls k a0 t141 t142 t143 _ A3.out).mono ?_); rintro e w12 ⟨rfl, hb⟩; refine ⟨_, rfl, ?_⟩; have n0_ := Aside0.mk (below_step (by repeat (first | (with_reducible first | exact HB.out | apply below_alloc | apply pw_below_drewN | apply below_drew1) | exact HB.out)) hb); clear HB; have HB := n0_; clear n0_; (try clear hb); (try clear hb2); (try clear hk); (try clear hi)))
        go_ret
        exact ⟨by first | rfl | (simp [errW_none, errW_some] <;> rfl) | (simp [*, errW_none, errW_some] <;> rfl), by repeat (first | (with_reducible first | exact HB.out | apply below_alloc | apply pw_below_drewN | apply below_drew1) | exact HB.out)⟩
    · rw [if_neg c5] at H
      have c5b0 : (t139.toList == t142.toList) = false := beq_eq_false_iff_ne.mpr c5
      have c5b1 : (t139.toList != t142.toList) = true := bne_iff_ne.mpr c5
      obtain rfl := Option.some.inj H
      go_enter Try.func4, Try.ntmps4
      go_wp2_with (first | ((with_reducible refine gate_callee (f := 12) rfl ?_); refine goesL_ (some 11) rfl rfl Try.func12 (by kernel_rfl) rfl #[.string a0] rfl (by (try simp only [List.map_toArray, List.map_cons, List.map_nil]); first | done | rfl | (simp only [List.length_drop, List.length_take]; rfl)) ?_; (with_reducible refine (frame_Open.calls k a0 t138 t139 t140 _ A2.out).mono ?_); rintro e w13 ⟨rfl, hb⟩; refine ⟨_, rfl, ?_⟩; have n0_ := Aside0.mk (below_step (by repeat (first | (with_reducible first | exact HB.out | apply below_alloc | apply pw_below_drewN | apply below_drew1) | exact HB.out)) hb); clear HB; have HB := n0_; clear n0_; (try clear hb); (try clear hb2); (try clear hk); (try clear hi)) | ((with_reducible refine gate_callee (f := 13) rfl ?_); refine goesL_ (some 17) rfl rfl Try.func13 (by kernel_rfl) rfl #[.string a0] rfl (by (try simp only [List.map_toArray, List.map_cons, List.map_nil]); first | done | rfl | (simp only [List.length_drop, List.length_take]; rfl)) ?_; (with_reducible refine (counterfoilref03_Open.calls k a0 t141 t142 t143 _ A3.out).mono ?_); rintro e w14 ⟨rfl, hb⟩; refine ⟨_, rfl, ?_⟩; have n0_ := Aside0.mk (below_step (by repeat (first | (with_reducible first | exact HB.out | apply below_alloc | apply pw_below_drewN | apply below_drew1) | exact HB.out)) hb); clear HB; have HB := n0_; clear n0_; (try clear hb); (try clear hb2); (try clear hk); (try clear hi)))
      go_ret
      exact ⟨by first | rfl | (simp [errW_none, errW_some] <;> rfl) | (simp [*, errW_none, errW_some] <;> rfl), by repeat (first | (with_reducible first | exact HB.out | apply below_alloc | apply pw_below_drewN | apply below_drew1) | exact HB.out)⟩
  · rw [if_neg c4] at H
    have c4b0 : (t138 == t141) = false := beq_eq_false_iff_ne.mpr c4
    have c4b1 : (t138 != t141) = true := bne_iff_ne.mpr c4
    obtain rfl := Option.some.inj H
    go_enter Try.func4, Try.ntmps4
    go_wp2_with (first | ((with_reducible refine gate_callee (f := 12) rfl ?_); refine goesL_ (some 11) rfl rfl Try.func12 (by kernel_rfl) rfl #[.string a0] rfl (by (try simp only [List.map_toArray, List.map_cons, List.map_nil]); first | done | rfl | (simp only [List.length_drop, List.length_take]; rfl)) ?_; (with_reducible refine (frame_Open.calls k a0 t138 t139 t140 _ A2.out).mono ?_); rintro e w15 ⟨rfl, hb⟩; refine ⟨_, rfl, ?_⟩; have n0_ := Aside0.mk (below_step (by repeat (first | (with_reducible first | exact HB.out | apply below_alloc | apply pw_below_drewN | apply below_drew1) | exact HB.out)) hb); clear HB; have HB := n0_; clear n0_; (try clear hb); (try clear hb2); (try clear hk); (try clear hi)) | ((with_reducible refine gate_callee (f := 13) rfl ?_); refine goesL_ (some 17) rfl rfl Try.func13 (by kernel_rfl) rfl #[.string a0] rfl (by (try simp only [List.map_toArray, List.map_cons, List.map_nil]); first | done | rfl | (simp only [List.length_drop, List.length_take]; rfl)) ?_; (with_reducible refine (counterfoilref03_Open.calls k a0 t141 t142 t143 _ A3.out).mono ?_); rintro e w16 ⟨rfl, hb⟩; refine ⟨_, rfl, ?_⟩; have n0_ := Aside0.mk (below_step (by repeat (first | (with_reducible first | exact HB.out | apply below_alloc | apply pw_below_drewN | apply below_drew1) | exact HB.out)) hb); clear HB; have HB := n0_; clear n0_; (try clear hb); (try clear hb2); (try clear hk); (try clear hi)))
    go_ret
    exact ⟨by first | rfl | (simp [errW_none, errW_some] <;> rfl) | (simp [*, errW_none, errW_some] <;> rfl), by repeat (first | (with_reducible first | exact HB.out | apply below_alloc | apply pw_below_drewN | apply below_drew1) | exact HB.out)⟩

/-- THE ONE PURE STATEMENT of counterfoillaw03_FrameOpens: yours. -/
def counterfoillaw03_FrameOpens.Pure : Prop := ∀ (a0 : ByteArray), a0.size ≤ 140737488351232 → ∃ k, counterfoillaw03_FrameOpens.f k a0 = some true
theorem counterfoillaw03_FrameOpens.walk (P : counterfoillaw03_FrameOpens.Pure) (a0 : ByteArray) (w : World) (w0 : a0.size ≤ 140737488351232) :
    Calls Try.prog 4 #[.string a0] w fun e w' => e = .returned (.bool true) ∧ Below w.heap.size w w' := by
  obtain ⟨k, h⟩ := P a0 w0
  refine (counterfoillaw03_FrameOpens.calls k a0 true w h).mono ?_
  rintro e w' ⟨rfl, hd⟩
  exact ⟨rfl, hd⟩

/-! ### counterfoillaw03_FrameBack: function 5 -/
def counterfoillaw03_FrameBack.f (k : Nat) (a0 : Int) (a1 : ByteArray) : Option (Bool) := (frame_Seal.f k a0 a1).bind fun bt145 => (if bt145.2 = 0 then ((frame_Open.f k bt145.1).bind fun bt147 => (if bt147.1 = a0 then (if bt147.2.1.toList = a1.toList then (if bt147.2.2 = 0 then (if (bt145.1.size : Int) = (wrap64 ((a1.size : Int) + 7)) then ((counterfoillaw03_awake.f k).bind fun t150 => (some t150)) else (some false)) else (some false)) else (some false)) else (some false))) else (if bt145.1.toList = ([] : List UInt8) then (if a0 < 0 then ((counterfoillaw03_awake.f k).bind fun t151 => (some t151)) else (if a0 > 255 then ((counterfoillaw03_awake.f k).bind fun t152 => (some t152)) else (if (a1.size : Int) > 4096 then ((counterfoillaw03_awake.f k).bind fun t153 => (some t153)) else (some false)))) else (some false)))
theorem counterfoillaw03_FrameBack.mono : ∀ a0 a1 k, LeO (counterfoillaw03_FrameBack.f k a0 a1) (counterfoillaw03_FrameBack.f (k + 1) a0 a1) := by
  intro a0 a1 k
  unfold counterfoillaw03_FrameBack.f
  repeat' first
      | (with_reducible exact counterfoillaw03_awake.mono _)
      | (with_reducible exact frame_Open.mono _ _)
      | (with_reducible exact frame_Seal.mono _ _ _)
      | (with_reducible exact LeO.refl _)
      | (with_reducible exact LeO.none _)
      | (with_reducible refine LeO.ite ?_ ?_)
      | (with_reducible refine LeO.bind ?_ (fun _ => ?_))
      | exact counterfoillaw03_awake.mono _
      | exact frame_Open.mono _ _
      | exact frame_Seal.mono _ _ _
      | exact LeO.none _
      | refine LeO.ite ?_ ?_
      | refine LeO.bind ?_ (fun _ => ?_)
set_option maxHeartbeats 8000000 in
set_option maxRecDepth 100000 in
theorem counterfoillaw03_FrameBack.calls (k : Nat) (a0 : Int) (a1 : ByteArray) (r : Bool) (w : World) (h : counterfoillaw03_FrameBack.f k a0 a1 = some r) :
    Calls Try.prog 5 #[.int .i64 a0, .string a1] w fun e w' => e = .returned (.bool r) ∧ Below w.heap.size w w' := by
  have HB := Aside0.mk (Below.refl w.heap.size w)
  have H : ((frame_Seal.f k a0 a1).bind fun bt145 => (if bt145.2 = 0 then ((frame_Open.f k bt145.1).bind fun bt147 => (if bt147.1 = a0 then (if bt147.2.1.toList = a1.toList then (if bt147.2.2 = 0 then (if (bt145.1.size : Int) = (wrap64 ((a1.size : Int) + 7)) then ((counterfoillaw03_awake.f k).bind fun t150 => (some t150)) else (some false)) else (some false)) else (some false)) else (some false))) else (if bt145.1.toList = ([] : List UInt8) then (if a0 < 0 then ((counterfoillaw03_awake.f k).bind fun t151 => (some t151)) else (if a0 > 255 then ((counterfoillaw03_awake.f k).bind fun t152 => (some t152)) else (if (a1.size : Int) > 4096 then ((counterfoillaw03_awake.f k).bind fun t153 => (some t153)) else (some false)))) else (some false)))) = some r := h
  clear h
  replace H := Option.bind_eq_some_iff.mp H
  obtain ⟨⟨t145, t146⟩, A30, H⟩ := H
  replace H : (if t146 = 0 then ((frame_Open.f k t145).bind fun bt147 => (if bt147.1 = a0 then (if bt147.2.1.toList = a1.toList then (if bt147.2.2 = 0 then (if (t145.size : Int) = (wrap64 ((a1.size : Int) + 7)) then ((counterfoillaw03_awake.f k).bind fun t150 => (some t150)) else (some false)) else (some false)) else (some false)) else (some false))) else (if t145.toList = ([] : List UInt8) then (if a0 < 0 then ((counterfoillaw03_awake.f k).bind fun t151 => (some t151)) else (if a0 > 255 then ((counterfoillaw03_awake.f k).bind fun t152 => (some t152)) else (if (a1.size : Int) > 4096 then ((counterfoillaw03_awake.f k).bind fun t153 => (some t153)) else (some false)))) else (some false))) = some r := H
  have A3 := Aside0.mk A30
  clear A30
  by_cases c4 : t146 = 0
  · rw [if_pos c4] at H
    have c4b0 : (t146 == 0) = true := beq_iff_eq.mpr c4
    have c4b1 : (t146 != 0) = false := bne_eq_false_iff_eq.mpr c4
    clear c4
    replace H := Option.bind_eq_some_iff.mp H
    obtain ⟨⟨t147, t148, t149⟩, A50, H⟩ := H
    replace H : (if t147 = a0 then (if t148.toList = a1.toList then (if t149 = 0 then (if (t145.size : Int) = (wrap64 ((a1.size : Int) + 7)) then ((counterfoillaw03_awake.f k).bind fun t150 => (some t150)) else (some false)) else (some false)) else (some false)) else (some false)) = some r := H
    have A5 := Aside0.mk A50
    clear A50
    by_cases c6 : t147 = a0
    · rw [if_pos c6] at H
      have c6b0 : (t147 == a0) = true := beq_iff_eq.mpr c6
      have c6b1 : (t147 != a0) = false := bne_eq_false_iff_eq.mpr c6
      clear c6
      by_cases c7 : t148.toList = a1.toList
      · rw [if_pos c7] at H
        have c7b0 : (t148.toList == a1.toList) = true := beq_iff_eq.mpr c7
        have c7b1 : (t148.toList != a1.toList) = false := bne_eq_false_iff_eq.mpr c7
        clear c7
        by_cases c8 : t149 = 0
        · rw [if_pos c8] at H
          have c8b0 : (t149 == 0) = true := beq_iff_eq.mpr c8
          have c8b1 : (t149 != 0) = false := bne_eq_false_iff_eq.mpr c8
          clear c8
          by_cases c9 : (t145.size : Int) = (wrap64 ((a1.size : Int) + 7))
          · rw [if_pos c9] at H
            have c9b0 : ((t145.size : Int) == (wrap64 ((a1.size : Int) + 7))) = true := beq_iff_eq.mpr c9
            have c9b1 : ((t145.size : Int) != (wrap64 ((a1.size : Int) + 7))) = false := bne_eq_false_iff_eq.mpr c9
            clear c9
            replace H := Option.bind_eq_some_iff.mp H
            obtain ⟨t150, A100, H⟩ := H
            replace H : (some t150) = some r := H
            have A10 := Aside0.mk A100
            clear A100
            obtain rfl := Option.some.inj H
            go_enter Try.func5, Try.ntmps5
            go_wp2_with (first | ((with_reducible refine gate_callee (f := 9) rfl ?_); refine goesL_ (some 13) rfl rfl Try.func9 (by kernel_rfl) rfl #[.int .i64 a0, .string a1] rfl (by (try simp only [List.map_toArray, List.map_cons, List.map_nil]); first | done | rfl | (simp only [List.length_drop, List.length_take]; rfl)) ?_; (with_reducible refine (frame_Seal.calls k a0 a1 t145 t146 _ A3.out).mono ?_); rintro e w11 ⟨rfl, hb⟩; refine ⟨_, rfl, ?_⟩; have n0_ := Aside0.mk (below_step (by repeat (first | (with_reducible first | exact HB.out | apply below_alloc | apply pw_below_drewN | apply below_drew1) | exact HB.out)) hb); clear HB; have HB := n0_; clear n0_; (try clear hb); (try clear hb2); (try clear hk); (try clear hi)) | ((with_reducible refine gate_callee (f := 12) rfl ?_); refine goesL_ (some 38) rfl rfl Try.func12 (by kernel_rfl) rfl #[.string t145] rfl (by (try simp only [List.map_toArray, List.map_cons, List.map_nil]); first | done | rfl | (simp only [List.length_drop, List.length_take]; rfl)) ?_; (with_reducible refine (frame_Open.calls k t145 t147 t148 t149 _ A5.out).mono ?_); rintro e w12 ⟨rfl, hb⟩; refine ⟨_, rfl, ?_⟩; have n0_ := Aside0.mk (below_step (by repeat (first | (with_reducible first | exact HB.out | apply below_alloc | apply pw_below_drewN | apply below_drew1) | exact HB.out)) hb); clear HB; have HB := n0_; clear n0_; (try clear hb); (try clear hb2); (try clear hk); (try clear hi)) | (go_at_call 11; (with_reducible refine (counterfoillaw03_awake.calls k  t150 _ A10.out).mono ?_); rintro e w13 ⟨rfl, hb⟩; have n0_ := Aside0.mk (below_step (by repeat (first | (with_reducible first | exact HB.out | apply below_alloc | apply pw_below_drewN | apply below_drew1) | exact HB.out)) hb); clear HB; have HB := n0_; clear n0_; (try clear hb); (try clear hb2); (try clear hk); (try clear hi)))
            go_ret
            exact ⟨by first | rfl | (simp [errW_none, errW_some] <;> rfl) | (simp [*, errW_none, errW_some] <;> rfl), by repeat (first | (with_reducible first | exact HB.out | apply below_alloc | apply pw_below_drewN | apply below_drew1) | exact HB.out)⟩
          · rw [if_neg c9] at H
            have c9b0 : ((t145.size : Int) == (wrap64 ((a1.size : Int) + 7))) = false := beq_eq_false_iff_ne.mpr c9
            have c9b1 : ((t145.size : Int) != (wrap64 ((a1.size : Int) + 7))) = true := bne_iff_ne.mpr c9
            obtain rfl := Option.some.inj H
            go_enter Try.func5, Try.ntmps5
            go_wp2_with (first | ((with_reducible refine gate_callee (f := 9) rfl ?_); refine goesL_ (some 13) rfl rfl Try.func9 (by kernel_rfl) rfl #[.int .i64 a0, .string a1] rfl (by (try simp only [List.map_toArray, List.map_cons, List.map_nil]); first | done | rfl | (simp only [List.length_drop, List.length_take]; rfl)) ?_; (with_reducible refine (frame_Seal.calls k a0 a1 t145 t146 _ A3.out).mono ?_); rintro e w14 ⟨rfl, hb⟩; refine ⟨_, rfl, ?_⟩; have n0_ := Aside0.mk (below_step (by repeat (first | (with_reducible first | exact HB.out | apply below_alloc | apply pw_below_drewN | apply below_drew1) | exact HB.out)) hb); clear HB; have HB := n0_; clear n0_; (try clear hb); (try clear hb2); (try clear hk); (try clear hi)) | ((with_reducible refine gate_callee (f := 12) rfl ?_); refine goesL_ (some 38) rfl rfl Try.func12 (by kernel_rfl) rfl #[.string t145] rfl (by (try simp only [List.map_toArray, List.map_cons, List.map_nil]); first | done | rfl | (simp only [List.length_drop, List.length_take]; rfl)) ?_; (with_reducible refine (frame_Open.calls k t145 t147 t148 t149 _ A5.out).mono ?_); rintro e w15 ⟨rfl, hb⟩; refine ⟨_, rfl, ?_⟩; have n0_ := Aside0.mk (below_step (by repeat (first | (with_reducible first | exact HB.out | apply below_alloc | apply pw_below_drewN | apply below_drew1) | exact HB.out)) hb); clear HB; have HB := n0_; clear n0_; (try clear hb); (try clear hb2); (try clear hk); (try clear hi)))
            go_ret
            exact ⟨by first | rfl | (simp [errW_none, errW_some] <;> rfl) | (simp [*, errW_none, errW_some] <;> rfl), by repeat (first | (with_reducible first | exact HB.out | apply below_alloc | apply pw_below_drewN | apply below_drew1) | exact HB.out)⟩
        · rw [if_neg c8] at H
          have c8b0 : (t149 == 0) = false := beq_eq_false_iff_ne.mpr c8
          have c8b1 : (t149 != 0) = true := bne_iff_ne.mpr c8
          obtain rfl := Option.some.inj H
          go_enter Try.func5, Try.ntmps5
          go_wp2_with (first | ((with_reducible refine gate_callee (f := 9) rfl ?_); refine goesL_ (some 13) rfl rfl Try.func9 (by kernel_rfl) rfl #[.int .i64 a0, .string a1] rfl (by (try simp only [List.map_toArray, List.map_cons, List.map_nil]); first | done | rfl | (simp only [List.length_drop, List.length_take]; rfl)) ?_; (with_reducible refine (frame_Seal.calls k a0 a1 t145 t146 _ A3.out).mono ?_); rintro e w16 ⟨rfl, hb⟩; refine ⟨_, rfl, ?_⟩; have n0_ := Aside0.mk (below_step (by repeat (first | (with_reducible first | exact HB.out | apply below_alloc | apply pw_below_drewN | apply below_drew1) | exact HB.out)) hb); clear HB; have HB := n0_; clear n0_; (try clear hb); (try clear hb2); (try clear hk); (try clear hi)) | ((with_reducible refine gate_callee (f := 12) rfl ?_); refine goesL_ (some 38) rfl rfl Try.func12 (by kernel_rfl) rfl #[.string t145] rfl (by (try simp only [List.map_toArray, List.map_cons, List.map_nil]); first | done | rfl | (simp only [List.length_drop, List.length_take]; rfl)) ?_; (with_reducible refine (frame_Open.calls k t145 t147 t148 t149 _ A5.out).mono ?_); rintro e w17 ⟨rfl, hb⟩; refine ⟨_, rfl, ?_⟩; have n0_ := Aside0.mk (below_step (by repeat (first | (with_reducible first | exact HB.out | apply below_alloc | apply pw_below_drewN | apply below_drew1) | exact HB.out)) hb); clear HB; have HB := n0_; clear n0_; (try clear hb); (try clear hb2); (try clear hk); (try clear hi)))
          go_ret
          exact ⟨by first | rfl | (simp [errW_none, errW_some] <;> rfl) | (simp [*, errW_none, errW_some] <;> rfl), by repeat (first | (with_reducible first | exact HB.out | apply below_alloc | apply pw_below_drewN | apply below_drew1) | exact HB.out)⟩
      · rw [if_neg c7] at H
        have c7b0 : (t148.toList == a1.toList) = false := beq_eq_false_iff_ne.mpr c7
        have c7b1 : (t148.toList != a1.toList) = true := bne_iff_ne.mpr c7
        obtain rfl := Option.some.inj H
        go_enter Try.func5, Try.ntmps5
        go_wp2_with (first | ((with_reducible refine gate_callee (f := 9) rfl ?_); refine goesL_ (some 13) rfl rfl Try.func9 (by kernel_rfl) rfl #[.int .i64 a0, .string a1] rfl (by (try simp only [List.map_toArray, List.map_cons, List.map_nil]); first | done | rfl | (simp only [List.length_drop, List.length_take]; rfl)) ?_; (with_reducible refine (frame_Seal.calls k a0 a1 t145 t146 _ A3.out).mono ?_); rintro e w18 ⟨rfl, hb⟩; refine ⟨_, rfl, ?_⟩; have n0_ := Aside0.mk (below_step (by repeat (first | (with_reducible first | exact HB.out | apply below_alloc | apply pw_below_drewN | apply below_drew1) | exact HB.out)) hb); clear HB; have HB := n0_; clear n0_; (try clear hb); (try clear hb2); (try clear hk); (try clear hi)) | ((with_reducible refine gate_callee (f := 12) rfl ?_); refine goesL_ (some 38) rfl rfl Try.func12 (by kernel_rfl) rfl #[.string t145] rfl (by (try simp only [List.map_toArray, List.map_cons, List.map_nil]); first | done | rfl | (simp only [List.length_drop, List.length_take]; rfl)) ?_; (with_reducible refine (frame_Open.calls k t145 t147 t148 t149 _ A5.out).mono ?_); rintro e w19 ⟨rfl, hb⟩; refine ⟨_, rfl, ?_⟩; have n0_ := Aside0.mk (below_step (by repeat (first | (with_reducible first | exact HB.out | apply below_alloc | apply pw_below_drewN | apply below_drew1) | exact HB.out)) hb); clear HB; have HB := n0_; clear n0_; (try clear hb); (try clear hb2); (try clear hk); (try clear hi)))
        go_ret
        exact ⟨by first | rfl | (simp [errW_none, errW_some] <;> rfl) | (simp [*, errW_none, errW_some] <;> rfl), by repeat (first | (with_reducible first | exact HB.out | apply below_alloc | apply pw_below_drewN | apply below_drew1) | exact HB.out)⟩
    · rw [if_neg c6] at H
      have c6b0 : (t147 == a0) = false := beq_eq_false_iff_ne.mpr c6
      have c6b1 : (t147 != a0) = true := bne_iff_ne.mpr c6
      obtain rfl := Option.some.inj H
      go_enter Try.func5, Try.ntmps5
      go_wp2_with (first | ((with_reducible refine gate_callee (f := 9) rfl ?_); refine goesL_ (some 13) rfl rfl Try.func9 (by kernel_rfl) rfl #[.int .i64 a0, .string a1] rfl (by (try simp only [List.map_toArray, List.map_cons, List.map_nil]); first | done | rfl | (simp only [List.length_drop, List.length_take]; rfl)) ?_; (with_reducible refine (frame_Seal.calls k a0 a1 t145 t146 _ A3.out).mono ?_); rintro e w20 ⟨rfl, hb⟩; refine ⟨_, rfl, ?_⟩; have n0_ := Aside0.mk (below_step (by repeat (first | (with_reducible first | exact HB.out | apply below_alloc | apply pw_below_drewN | apply below_drew1) | exact HB.out)) hb); clear HB; have HB := n0_; clear n0_; (try clear hb); (try clear hb2); (try clear hk); (try clear hi)) | ((with_reducible refine gate_callee (f := 12) rfl ?_); refine goesL_ (some 38) rfl rfl Try.func12 (by kernel_rfl) rfl #[.string t145] rfl (by (try simp only [List.map_toArray, List.map_cons, List.map_nil]); first | done | rfl | (simp only [List.length_drop, List.length_take]; rfl)) ?_; (with_reducible refine (frame_Open.calls k t145 t147 t148 t149 _ A5.out).mono ?_); rintro e w21 ⟨rfl, hb⟩; refine ⟨_, rfl, ?_⟩; have n0_ := Aside0.mk (below_step (by repeat (first | (with_reducible first | exact HB.out | apply below_alloc | apply pw_below_drewN | apply below_drew1) | exact HB.out)) hb); clear HB; have HB := n0_; clear n0_; (try clear hb); (try clear hb2); (try clear hk); (try clear hi)))
      go_ret
      exact ⟨by first | rfl | (simp [errW_none, errW_some] <;> rfl) | (simp [*, errW_none, errW_some] <;> rfl), by repeat (first | (with_reducible first | exact HB.out | apply below_alloc | apply pw_below_drewN | apply below_drew1) | exact HB.out)⟩
  · rw [if_neg c4] at H
    have c4b0 : (t146 == 0) = false := beq_eq_false_iff_ne.mpr c4
    have c4b1 : (t146 != 0) = true := bne_iff_ne.mpr c4
    by_cases c22 : t145.toList = ([] : List UInt8)
    · rw [if_pos c22] at H
      have c22b0 : (t145.toList == ([] : List UInt8)) = true := beq_iff_eq.mpr c22
      have c22b1 : (t145.toList != ([] : List UInt8)) = false := bne_eq_false_iff_eq.mpr c22
      clear c22
      by_cases c23 : a0 < 0
      · rw [if_pos c23] at H
        have c23b0 : decide (a0 < 0) = true := decide_eq_true c23
        clear c23
        replace H := Option.bind_eq_some_iff.mp H
        obtain ⟨t151, A240, H⟩ := H
        replace H : (some t151) = some r := H
        have A24 := Aside0.mk A240
        clear A240
        obtain rfl := Option.some.inj H
        go_enter Try.func5, Try.ntmps5
        go_wp2_with (first | ((with_reducible refine gate_callee (f := 9) rfl ?_); refine goesL_ (some 13) rfl rfl Try.func9 (by kernel_rfl) rfl #[.int .i64 a0, .string a1] rfl (by (try simp only [List.map_toArray, List.map_cons, List.map_nil]); first | done | rfl | (simp only [List.length_drop, List.length_take]; rfl)) ?_; (with_reducible refine (frame_Seal.calls k a0 a1 t145 t146 _ A3.out).mono ?_); rintro e w25 ⟨rfl, hb⟩; refine ⟨_, rfl, ?_⟩; have n0_ := Aside0.mk (below_step (by repeat (first | (with_reducible first | exact HB.out | apply below_alloc | apply pw_below_drewN | apply below_drew1) | exact HB.out)) hb); clear HB; have HB := n0_; clear n0_; (try clear hb); (try clear hb2); (try clear hk); (try clear hi)) | (go_at_call 11; (with_reducible refine (counterfoillaw03_awake.calls k  t151 _ A24.out).mono ?_); rintro e w26 ⟨rfl, hb⟩; have n0_ := Aside0.mk (below_step (by repeat (first | (with_reducible first | exact HB.out | apply below_alloc | apply pw_below_drewN | apply below_drew1) | exact HB.out)) hb); clear HB; have HB := n0_; clear n0_; (try clear hb); (try clear hb2); (try clear hk); (try clear hi)))
        go_ret
        exact ⟨by first | rfl | (simp [errW_none, errW_some] <;> rfl) | (simp [*, errW_none, errW_some] <;> rfl), by repeat (first | (with_reducible first | exact HB.out | apply below_alloc | apply pw_below_drewN | apply below_drew1) | exact HB.out)⟩
      · rw [if_neg c23] at H
        have c23b0 : decide (a0 < 0) = false := decide_eq_false c23
        clear c23
        by_cases c27 : a0 > 255
        · rw [if_pos c27] at H
          have c27b0 : decide (255 < a0) = true := decide_eq_true c27
          clear c27
          replace H := Option.bind_eq_some_iff.mp H
          obtain ⟨t152, A280, H⟩ := H
          replace H : (some t152) = some r := H
          have A28 := Aside0.mk A280
          clear A280
          obtain rfl := Option.some.inj H
          go_enter Try.func5, Try.ntmps5
          go_wp2_with (first | ((with_reducible refine gate_callee (f := 9) rfl ?_); refine goesL_ (some 13) rfl rfl Try.func9 (by kernel_rfl) rfl #[.int .i64 a0, .string a1] rfl (by (try simp only [List.map_toArray, List.map_cons, List.map_nil]); first | done | rfl | (simp only [List.length_drop, List.length_take]; rfl)) ?_; (with_reducible refine (frame_Seal.calls k a0 a1 t145 t146 _ A3.out).mono ?_); rintro e w29 ⟨rfl, hb⟩; refine ⟨_, rfl, ?_⟩; have n0_ := Aside0.mk (below_step (by repeat (first | (with_reducible first | exact HB.out | apply below_alloc | apply pw_below_drewN | apply below_drew1) | exact HB.out)) hb); clear HB; have HB := n0_; clear n0_; (try clear hb); (try clear hb2); (try clear hk); (try clear hi)) | (go_at_call 11; (with_reducible refine (counterfoillaw03_awake.calls k  t152 _ A28.out).mono ?_); rintro e w30 ⟨rfl, hb⟩; have n0_ := Aside0.mk (below_step (by repeat (first | (with_reducible first | exact HB.out | apply below_alloc | apply pw_below_drewN | apply below_drew1) | exact HB.out)) hb); clear HB; have HB := n0_; clear n0_; (try clear hb); (try clear hb2); (try clear hk); (try clear hi)))
          go_ret
          exact ⟨by first | rfl | (simp [errW_none, errW_some] <;> rfl) | (simp [*, errW_none, errW_some] <;> rfl), by repeat (first | (with_reducible first | exact HB.out | apply below_alloc | apply pw_below_drewN | apply below_drew1) | exact HB.out)⟩
        · rw [if_neg c27] at H
          have c27b0 : decide (255 < a0) = false := decide_eq_false c27
          clear c27
          by_cases c31 : (a1.size : Int) > 4096
          · rw [if_pos c31] at H
            have c31b0 : decide (4096 < (a1.size : Int)) = true := decide_eq_true c31
            have c31b1 : decide (4096 < a1.size) = true := decide_eq_true (by omega)
            clear c31
            replace H := Option.bind_eq_some_iff.mp H
            obtain ⟨t153, A320, H⟩ := H
            replace H : (some t153) = some r := H
            have A32 := Aside0.mk A320
            clear A320
            obtain rfl := Option.some.inj H
            go_enter Try.func5, Try.ntmps5
            go_wp2_with (first | ((with_reducible refine gate_callee (f := 9) rfl ?_); refine goesL_ (some 13) rfl rfl Try.func9 (by kernel_rfl) rfl #[.int .i64 a0, .string a1] rfl (by (try simp only [List.map_toArray, List.map_cons, List.map_nil]); first | done | rfl | (simp only [List.length_drop, List.length_take]; rfl)) ?_; (with_reducible refine (frame_Seal.calls k a0 a1 t145 t146 _ A3.out).mono ?_); rintro e w33 ⟨rfl, hb⟩; refine ⟨_, rfl, ?_⟩; have n0_ := Aside0.mk (below_step (by repeat (first | (with_reducible first | exact HB.out | apply below_alloc | apply pw_below_drewN | apply below_drew1) | exact HB.out)) hb); clear HB; have HB := n0_; clear n0_; (try clear hb); (try clear hb2); (try clear hk); (try clear hi)) | (go_at_call 11; (with_reducible refine (counterfoillaw03_awake.calls k  t153 _ A32.out).mono ?_); rintro e w34 ⟨rfl, hb⟩; have n0_ := Aside0.mk (below_step (by repeat (first | (with_reducible first | exact HB.out | apply below_alloc | apply pw_below_drewN | apply below_drew1) | exact HB.out)) hb); clear HB; have HB := n0_; clear n0_; (try clear hb); (try clear hb2); (try clear hk); (try clear hi)))
            go_ret
            exact ⟨by first | rfl | (simp [errW_none, errW_some] <;> rfl) | (simp [*, errW_none, errW_some] <;> rfl), by repeat (first | (with_reducible first | exact HB.out | apply below_alloc | apply pw_below_drewN | apply below_drew1) | exact HB.out)⟩
          · rw [if_neg c31] at H
            have c31b0 : decide (4096 < (a1.size : Int)) = false := decide_eq_false c31
            have c31b1 : decide (4096 < a1.size) = false := decide_eq_false (by omega)
            clear c31
            obtain rfl := Option.some.inj H
            go_enter Try.func5, Try.ntmps5
            go_wp2_with (first | ((with_reducible refine gate_callee (f := 9) rfl ?_); refine goesL_ (some 13) rfl rfl Try.func9 (by kernel_rfl) rfl #[.int .i64 a0, .string a1] rfl (by (try simp only [List.map_toArray, List.map_cons, List.map_nil]); first | done | rfl | (simp only [List.length_drop, List.length_take]; rfl)) ?_; (with_reducible refine (frame_Seal.calls k a0 a1 t145 t146 _ A3.out).mono ?_); rintro e w35 ⟨rfl, hb⟩; refine ⟨_, rfl, ?_⟩; have n0_ := Aside0.mk (below_step (by repeat (first | (with_reducible first | exact HB.out | apply below_alloc | apply pw_below_drewN | apply below_drew1) | exact HB.out)) hb); clear HB; have HB := n0_; clear n0_; (try clear hb); (try clear hb2); (try clear hk); (try clear hi)))
            go_ret
            exact ⟨by first | rfl | (simp [errW_none, errW_some] <;> rfl) | (simp [*, errW_none, errW_some] <;> rfl), by repeat (first | (with_reducible first | exact HB.out | apply below_alloc | apply pw_below_drewN | apply below_drew1) | exact HB.out)⟩
    · rw [if_neg c22] at H
      have c22b0 : (t145.toList == ([] : List UInt8)) = false := beq_eq_false_iff_ne.mpr c22
      have c22b1 : (t145.toList != ([] : List UInt8)) = true := bne_iff_ne.mpr c22
      obtain rfl := Option.some.inj H
      go_enter Try.func5, Try.ntmps5
      go_wp2_with (first | ((with_reducible refine gate_callee (f := 9) rfl ?_); refine goesL_ (some 13) rfl rfl Try.func9 (by kernel_rfl) rfl #[.int .i64 a0, .string a1] rfl (by (try simp only [List.map_toArray, List.map_cons, List.map_nil]); first | done | rfl | (simp only [List.length_drop, List.length_take]; rfl)) ?_; (with_reducible refine (frame_Seal.calls k a0 a1 t145 t146 _ A3.out).mono ?_); rintro e w36 ⟨rfl, hb⟩; refine ⟨_, rfl, ?_⟩; have n0_ := Aside0.mk (below_step (by repeat (first | (with_reducible first | exact HB.out | apply below_alloc | apply pw_below_drewN | apply below_drew1) | exact HB.out)) hb); clear HB; have HB := n0_; clear n0_; (try clear hb); (try clear hb2); (try clear hk); (try clear hi)))
      go_ret
      exact ⟨by first | rfl | (simp [errW_none, errW_some] <;> rfl) | (simp [*, errW_none, errW_some] <;> rfl), by repeat (first | (with_reducible first | exact HB.out | apply below_alloc | apply pw_below_drewN | apply below_drew1) | exact HB.out)⟩

/-- THE ONE PURE STATEMENT of counterfoillaw03_FrameBack: yours. -/
def counterfoillaw03_FrameBack.Pure : Prop := ∀ (a0 : Int) (a1 : ByteArray), (Lit.int .i64 a0).wf = true → a1.size ≤ 140737488351232 → ∃ k, counterfoillaw03_FrameBack.f k a0 a1 = some true
theorem counterfoillaw03_FrameBack.walk (P : counterfoillaw03_FrameBack.Pure) (a0 : Int) (a1 : ByteArray) (w : World) (w0 : (Lit.int .i64 a0).wf = true) (w1 : a1.size ≤ 140737488351232) :
    Calls Try.prog 5 #[.int .i64 a0, .string a1] w fun e w' => e = .returned (.bool true) ∧ Below w.heap.size w w' := by
  obtain ⟨k, h⟩ := P a0 a1 w0 w1
  refine (counterfoillaw03_FrameBack.calls k a0 a1 true w h).mono ?_
  rintro e w' ⟨rfl, hd⟩
  exact ⟨rfl, hd⟩

-- NOT PRINTED: function 6 (counterfoillaw03_FrameTurned)

/-! ### counterfoillaw03_FrameCut: function 7 -/
def counterfoillaw03_FrameCut.j0 : Nat → Int → ByteArray → Bool → Option (Bool)
  | 0, _, _, _ => none
  | k + 1, x2, x7, x29 => if x29 = true then ((counterfoillaw03_awake.f k).bind fun t159 => (some t159)) else (if 0 ≤ x2 then (if x2 ≤ (x7.size : Int) then ((frame_Open.f k (x7.extract 0 (x2 : Int).toNat)).bind fun bt160 => (if bt160.1 = 0 then (if bt160.2.1.toList = ([] : List UInt8) then (if bt160.2.2 = 2 then ((counterfoillaw03_awake.f k).bind fun t163 => (some t163)) else (some false)) else (some false)) else (some false))) else (none)) else (none))
def counterfoillaw03_FrameCut.f (k : Nat) (a0 : Int) (a1 : ByteArray) (a2 : Int) : Option (Bool) := (frame_Seal.f k a0 a1).bind fun bt157 => (if bt157.2 = 0 then (if a2 < 0 then (counterfoillaw03_FrameCut.j0 k a2 bt157.1 true) else (counterfoillaw03_FrameCut.j0 k a2 bt157.1 (decide (a2 ≥ (bt157.1.size : Int))))) else (counterfoillaw03_FrameCut.j0 k a2 bt157.1 true))
theorem counterfoillaw03_FrameCut.mono_l : ∀ k, (∀ y0 y1 y2, LeO (counterfoillaw03_FrameCut.j0 k y0 y1 y2) (counterfoillaw03_FrameCut.j0 (k + 1) y0 y1 y2))
  | 0 => fun _ _ _ r h => by simp [counterfoillaw03_FrameCut.j0] at h
  | k + 1 => by
    have ih0 := counterfoillaw03_FrameCut.mono_l k
    · intro y0 y1 y2
      unfold counterfoillaw03_FrameCut.j0
      repeat' first
      | (with_reducible exact ih0 _ _ _)
      | (with_reducible exact counterfoillaw03_awake.mono _)
      | (with_reducible exact frame_Open.mono _ _)
      | (with_reducible exact frame_Seal.mono _ _ _)
      | (with_reducible exact LeO.refl _)
      | (with_reducible exact LeO.none _)
      | (with_reducible refine LeO.ite ?_ ?_)
      | (with_reducible refine LeO.bind ?_ (fun _ => ?_))
      | exact ih0 _ _ _
      | exact counterfoillaw03_awake.mono _
      | exact frame_Open.mono _ _
      | exact frame_Seal.mono _ _ _
      | exact LeO.none _
      | refine LeO.ite ?_ ?_
      | refine LeO.bind ?_ (fun _ => ?_)
theorem counterfoillaw03_FrameCut.mono : ∀ a0 a1 a2 k, LeO (counterfoillaw03_FrameCut.f k a0 a1 a2) (counterfoillaw03_FrameCut.f (k + 1) a0 a1 a2) := by
  intro a0 a1 a2 k
  have ih0 := counterfoillaw03_FrameCut.mono_l k
  unfold counterfoillaw03_FrameCut.f
  repeat' first
      | (with_reducible exact ih0 _ _ _)
      | (with_reducible exact counterfoillaw03_awake.mono _)
      | (with_reducible exact frame_Open.mono _ _)
      | (with_reducible exact frame_Seal.mono _ _ _)
      | (with_reducible exact LeO.refl _)
      | (with_reducible exact LeO.none _)
      | (with_reducible refine LeO.ite ?_ ?_)
      | (with_reducible refine LeO.bind ?_ (fun _ => ?_))
      | exact ih0 _ _ _
      | exact counterfoillaw03_awake.mono _
      | exact frame_Open.mono _ _
      | exact frame_Seal.mono _ _ _
      | exact LeO.none _
      | refine LeO.ite ?_ ?_
      | refine LeO.bind ?_ (fun _ => ?_)
set_option maxHeartbeats 8000000 in
set_option maxRecDepth 100000 in
theorem counterfoillaw03_FrameCut.calls (k : Nat) (a0 : Int) (a1 : ByteArray) (a2 : Int) (r : Bool) (w : World) (h : counterfoillaw03_FrameCut.f k a0 a1 a2 = some r) :
    Calls Try.prog 7 #[.int .i64 a0, .string a1, .int .i64 a2] w fun e w' => e = .returned (.bool r) ∧ Below w.heap.size w w' := by
  have HB := Aside0.mk (Below.refl w.heap.size w)
  have H : ((frame_Seal.f k a0 a1).bind fun bt157 => (if bt157.2 = 0 then (if a2 < 0 then (counterfoillaw03_FrameCut.j0 k a2 bt157.1 true) else (counterfoillaw03_FrameCut.j0 k a2 bt157.1 (decide (a2 ≥ (bt157.1.size : Int))))) else (counterfoillaw03_FrameCut.j0 k a2 bt157.1 true))) = some r := h
  clear h
  replace H := Option.bind_eq_some_iff.mp H
  obtain ⟨⟨t157, t158⟩, A40, H⟩ := H
  replace H : (if t158 = 0 then (if a2 < 0 then (counterfoillaw03_FrameCut.j0 k a2 t157 true) else (counterfoillaw03_FrameCut.j0 k a2 t157 (decide (a2 ≥ (t157.size : Int))))) else (counterfoillaw03_FrameCut.j0 k a2 t157 true)) = some r := H
  have A4 := Aside0.mk A40
  clear A40
  have HC5 := Aside0.mk H
  clear H
  go_enter Try.func7, Try.ntmps7
  go_upto_region 2 with (first | ((with_reducible refine gate_callee (f := 9) rfl ?_); refine goesL_ (some 15) rfl rfl Try.func9 (by kernel_rfl) rfl #[.int .i64 a0, .string a1] rfl (by (try simp only [List.map_toArray, List.map_cons, List.map_nil]); first | done | rfl | (simp only [List.length_drop, List.length_take]; rfl)) ?_; (with_reducible refine (frame_Seal.calls k a0 a1 t157 t158 _ A4.out).mono ?_); rintro e w6 ⟨rfl, hb⟩; refine ⟨_, rfl, ?_⟩; have n0_ := Aside0.mk (below_step (by repeat (first | (with_reducible first | exact HB.out | apply below_alloc | apply pw_below_drewN | apply below_drew1) | exact HB.out)) hb); clear HB; have HB := n0_; clear n0_; (try clear hb); (try clear hb2); (try clear hk); (try clear hi)))
  (try simp only [Act.put, List.setIfInBounds_toArray, List.set_cons_zero, List.set_cons_succ])
  go_cut [29] (fun v29 wc => ∃ (kq : Nat) (x29_4 : Bool), v29 = .bool x29_4 ∧ Aside0 (counterfoillaw03_FrameCut.j0 kq a2 t157 x29_4 = some r) ∧ Aside0 (kq ≤ k) ∧ Aside0 (Below w.heap.size w wc))
  case first =>
    have H := HC5.out
    clear HC5
    by_cases c7 : t158 = 0
    · rw [if_pos c7] at H
      have c7b0 : (t158 == 0) = true := beq_iff_eq.mpr c7
      have c7b1 : (t158 != 0) = false := bne_eq_false_iff_eq.mpr c7
      clear c7
      (first | rw [c7b0] | (simp only [i64_w, i32_w]; rw [c7b0]) | skip)
      by_cases c8 : a2 < 0
      · rw [if_pos c8] at H
        have c8b0 : decide (a2 < 0) = true := decide_eq_true c8
        clear c8
        have H' := Aside0.mk H
        clear H
        go_wp2
        go_meet
        case rel => exact ⟨_, (true), (by first | rfl | (simp; done) | (simp [*]; done)), H', ⟨by first | omega | exact Nat.le_refl _⟩, ⟨by repeat (first | (with_reducible first | exact HB.out | apply below_alloc | apply pw_below_drewN | apply below_drew1) | exact HB.out)⟩⟩
      · rw [if_neg c8] at H
        have c8b0 : decide (a2 < 0) = false := decide_eq_false c8
        clear c8
        have H' := Aside0.mk H
        clear H
        go_wp2
        go_meet
        case rel => exact ⟨_, (decide (a2 ≥ (t157.size : Int))), (by first | rfl | (simp; done) | (simp [*]; done)), H', ⟨by first | omega | exact Nat.le_refl _⟩, ⟨by repeat (first | (with_reducible first | exact HB.out | apply below_alloc | apply pw_below_drewN | apply below_drew1) | exact HB.out)⟩⟩
    · rw [if_neg c7] at H
      have c7b0 : (t158 == 0) = false := beq_eq_false_iff_ne.mpr c7
      have c7b1 : (t158 != 0) = true := bne_iff_ne.mpr c7
      (first | rw [c7b0] | (simp only [i64_w, i32_w]; rw [c7b0]) | skip)
      have H' := Aside0.mk H
      clear H
      go_wp2
      go_meet
      case rel => exact ⟨_, (true), (by first | rfl | (simp; done) | (simp [*]; done)), H', ⟨by first | omega | exact Nat.le_refl _⟩, ⟨by repeat (first | (with_reducible first | exact HB.out | apply below_alloc | apply pw_below_drewN | apply below_drew1) | exact HB.out)⟩⟩
  case rest =>
    clear HC5
    try clear p2
    try clear c7
    try clear c7b0
    try clear c7b1
    try clear c8
    try clear c8b0
    obtain ⟨kq, x29_4, rfl, HA, HJ4, HB⟩ := hcut
    cases kq with
    | zero => exact absurd HA.out (by simp [counterfoillaw03_FrameCut.j0])
    | succ kj4 =>
      have H := HA.out
      clear HA
      simp only [counterfoillaw03_FrameCut.j0] at H
      by_cases c9 : x29_4 = true
      · subst c9
        have H1 : ((counterfoillaw03_awake.f kj4).bind fun t159 => (some t159)) = some r := by rw [if_pos rfl] at H; exact H
        clear H
        have H := H1
        clear H1
        replace H := Option.bind_eq_some_iff.mp H
        obtain ⟨t159, A100, H⟩ := H
        replace H : (some t159) = some r := H
        have A10 := Aside0.mk A100
        clear A100
        obtain rfl := Option.some.inj H
        go_wp2_with (first | ((with_reducible refine gate_callee (f := 11) rfl ?_); refine goesL_ (some 30) rfl rfl Try.func11 (by kernel_rfl) rfl #[] rfl (by (try simp only [List.map_toArray, List.map_cons, List.map_nil]); first | done | rfl | (simp only [List.length_drop, List.length_take]; rfl)) ?_; (with_reducible refine (counterfoillaw03_awake.calls kj4  t159 _ A10.out).mono ?_); rintro e w11 ⟨rfl, hb⟩; refine ⟨_, rfl, ?_⟩; have n0_ := Aside0.mk (below_step (by repeat (first | (with_reducible first | exact HB.out | apply below_alloc | apply pw_below_drewN | apply below_drew1) | exact HB.out)) hb); clear HB; have HB := n0_; clear n0_; (try clear hb); (try clear hb2); (try clear hk); (try clear hi)))
        go_ret
        exact ⟨by first | rfl | (simp [errW_none, errW_some] <;> rfl) | (simp [*, errW_none, errW_some] <;> rfl), by repeat (first | (with_reducible first | exact HB.out | apply below_alloc | apply pw_below_drewN | apply below_drew1) | exact HB.out)⟩
      · replace c9 := Bool.eq_false_iff.mpr c9
        subst c9
        have H1 : (if 0 ≤ a2 then (if a2 ≤ (t157.size : Int) then ((frame_Open.f kj4 (t157.extract 0 (a2 : Int).toNat)).bind fun bt160 => (if bt160.1 = 0 then (if bt160.2.1.toList = ([] : List UInt8) then (if bt160.2.2 = 2 then ((counterfoillaw03_awake.f kj4).bind fun t163 => (some t163)) else (some false)) else (some false)) else (some false))) else (none)) else (none)) = some r := by rw [if_neg (show ¬ (false = true) by decide)] at H; exact H
        clear H
        have H := H1
        clear H1
        by_cases c12 : 0 ≤ a2
        · rw [if_pos c12] at H
          have c12b0 := eq_true c12
          have c12b1 : decide (0 ≤ a2) = true := decide_eq_true c12
          clear c12
          by_cases c13 : a2 ≤ (t157.size : Int)
          · rw [if_pos c13] at H
            have c13b0 := eq_true c13
            have c13b1 : decide (a2 ≤ (t157.size : Int)) = true := decide_eq_true c13
            clear c13
            replace H := Option.bind_eq_some_iff.mp H
            obtain ⟨⟨t160, t161, t162⟩, A140, H⟩ := H
            replace H : (if t160 = 0 then (if t161.toList = ([] : List UInt8) then (if t162 = 2 then ((counterfoillaw03_awake.f kj4).bind fun t163 => (some t163)) else (some false)) else (some false)) else (some false)) = some r := H
            have A14 := Aside0.mk A140
            clear A140
            by_cases c15 : t160 = 0
            · rw [if_pos c15] at H
              have c15b0 : (t160 == 0) = true := beq_iff_eq.mpr c15
              have c15b1 : (t160 != 0) = false := bne_eq_false_iff_eq.mpr c15
              clear c15
              by_cases c16 : t161.toList = ([] : List UInt8)
              · rw [if_pos c16] at H
                have c16b0 : (t161.toList == ([] : List UInt8)) = true := beq_iff_eq.mpr c16
                have c16b1 : (t161.toList != ([] : List UInt8)) = false := bne_eq_false_iff_eq.mpr c16
                clear c16
                by_cases c17 : t162 = 2
                · rw [if_pos c17] at H
                  have c17b0 : (t162 == 2) = true := beq_iff_eq.mpr c17
                  have c17b1 : (t162 != 2) = false := bne_eq_false_iff_eq.mpr c17
                  clear c17
                  replace H := Option.bind_eq_some_iff.mp H
                  obtain ⟨t163, A180, H⟩ := H
                  replace H : (some t163) = some r := H
                  have A18 := Aside0.mk A180
                  clear A180
                  obtain rfl := Option.some.inj H
                  go_wp2_with (first | ((with_reducible refine gate_callee (f := 12) rfl ?_); refine goesL_ (some 35) rfl rfl Try.func12 (by kernel_rfl) rfl #[.string (t157.extract 0 (a2 : Int).toNat)] rfl (by (try simp only [List.map_toArray, List.map_cons, List.map_nil]); first | done | rfl | (simp only [List.length_drop, List.length_take]; rfl)) ?_; (with_reducible refine (frame_Open.calls kj4 (t157.extract 0 (a2 : Int).toNat) t160 t161 t162 _ A14.out).mono ?_); rintro e w19 ⟨rfl, hb⟩; refine ⟨_, rfl, ?_⟩; have n0_ := Aside0.mk (below_step (by repeat (first | (with_reducible first | exact HB.out | apply below_alloc | apply pw_below_drewN | apply below_drew1) | exact HB.out)) hb); clear HB; have HB := n0_; clear n0_; (try clear hb); (try clear hb2); (try clear hk); (try clear hi)) | (go_at_call 11; (with_reducible refine (counterfoillaw03_awake.calls kj4  t163 _ A18.out).mono ?_); rintro e w20 ⟨rfl, hb⟩; have n0_ := Aside0.mk (below_step (by repeat (first | (with_reducible first | exact HB.out | apply below_alloc | apply pw_below_drewN | apply below_drew1) | exact HB.out)) hb); clear HB; have HB := n0_; clear n0_; (try clear hb); (try clear hb2); (try clear hk); (try clear hi)))
                  go_ret
                  exact ⟨by first | rfl | (simp [errW_none, errW_some] <;> rfl) | (simp [*, errW_none, errW_some] <;> rfl), by repeat (first | (with_reducible first | exact HB.out | apply below_alloc | apply pw_below_drewN | apply below_drew1) | exact HB.out)⟩
                · rw [if_neg c17] at H
                  have c17b0 : (t162 == 2) = false := beq_eq_false_iff_ne.mpr c17
                  have c17b1 : (t162 != 2) = true := bne_iff_ne.mpr c17
                  obtain rfl := Option.some.inj H
                  go_wp2_with (first | ((with_reducible refine gate_callee (f := 12) rfl ?_); refine goesL_ (some 35) rfl rfl Try.func12 (by kernel_rfl) rfl #[.string (t157.extract 0 (a2 : Int).toNat)] rfl (by (try simp only [List.map_toArray, List.map_cons, List.map_nil]); first | done | rfl | (simp only [List.length_drop, List.length_take]; rfl)) ?_; (with_reducible refine (frame_Open.calls kj4 (t157.extract 0 (a2 : Int).toNat) t160 t161 t162 _ A14.out).mono ?_); rintro e w21 ⟨rfl, hb⟩; refine ⟨_, rfl, ?_⟩; have n0_ := Aside0.mk (below_step (by repeat (first | (with_reducible first | exact HB.out | apply below_alloc | apply pw_below_drewN | apply below_drew1) | exact HB.out)) hb); clear HB; have HB := n0_; clear n0_; (try clear hb); (try clear hb2); (try clear hk); (try clear hi)))
                  go_ret
                  exact ⟨by first | rfl | (simp [errW_none, errW_some] <;> rfl) | (simp [*, errW_none, errW_some] <;> rfl), by repeat (first | (with_reducible first | exact HB.out | apply below_alloc | apply pw_below_drewN | apply below_drew1) | exact HB.out)⟩
              · rw [if_neg c16] at H
                have c16b0 : (t161.toList == ([] : List UInt8)) = false := beq_eq_false_iff_ne.mpr c16
                have c16b1 : (t161.toList != ([] : List UInt8)) = true := bne_iff_ne.mpr c16
                obtain rfl := Option.some.inj H
                go_wp2_with (first | ((with_reducible refine gate_callee (f := 12) rfl ?_); refine goesL_ (some 35) rfl rfl Try.func12 (by kernel_rfl) rfl #[.string (t157.extract 0 (a2 : Int).toNat)] rfl (by (try simp only [List.map_toArray, List.map_cons, List.map_nil]); first | done | rfl | (simp only [List.length_drop, List.length_take]; rfl)) ?_; (with_reducible refine (frame_Open.calls kj4 (t157.extract 0 (a2 : Int).toNat) t160 t161 t162 _ A14.out).mono ?_); rintro e w22 ⟨rfl, hb⟩; refine ⟨_, rfl, ?_⟩; have n0_ := Aside0.mk (below_step (by repeat (first | (with_reducible first | exact HB.out | apply below_alloc | apply pw_below_drewN | apply below_drew1) | exact HB.out)) hb); clear HB; have HB := n0_; clear n0_; (try clear hb); (try clear hb2); (try clear hk); (try clear hi)))
                go_ret
                exact ⟨by first | rfl | (simp [errW_none, errW_some] <;> rfl) | (simp [*, errW_none, errW_some] <;> rfl), by repeat (first | (with_reducible first | exact HB.out | apply below_alloc | apply pw_below_drewN | apply below_drew1) | exact HB.out)⟩
            · rw [if_neg c15] at H
              have c15b0 : (t160 == 0) = false := beq_eq_false_iff_ne.mpr c15
              have c15b1 : (t160 != 0) = true := bne_iff_ne.mpr c15
              obtain rfl := Option.some.inj H
              go_wp2_with (first | ((with_reducible refine gate_callee (f := 12) rfl ?_); refine goesL_ (some 35) rfl rfl Try.func12 (by kernel_rfl) rfl #[.string (t157.extract 0 (a2 : Int).toNat)] rfl (by (try simp only [List.map_toArray, List.map_cons, List.map_nil]); first | done | rfl | (simp only [List.length_drop, List.length_take]; rfl)) ?_; (with_reducible refine (frame_Open.calls kj4 (t157.extract 0 (a2 : Int).toNat) t160 t161 t162 _ A14.out).mono ?_); rintro e w23 ⟨rfl, hb⟩; refine ⟨_, rfl, ?_⟩; have n0_ := Aside0.mk (below_step (by repeat (first | (with_reducible first | exact HB.out | apply below_alloc | apply pw_below_drewN | apply below_drew1) | exact HB.out)) hb); clear HB; have HB := n0_; clear n0_; (try clear hb); (try clear hb2); (try clear hk); (try clear hi)))
              go_ret
              exact ⟨by first | rfl | (simp [errW_none, errW_some] <;> rfl) | (simp [*, errW_none, errW_some] <;> rfl), by repeat (first | (with_reducible first | exact HB.out | apply below_alloc | apply pw_below_drewN | apply below_drew1) | exact HB.out)⟩
          · rw [if_neg c13] at H
            exact absurd H (by simp)
        · rw [if_neg c12] at H
          exact absurd H (by simp)

/-- THE ONE PURE STATEMENT of counterfoillaw03_FrameCut: yours. -/
def counterfoillaw03_FrameCut.Pure : Prop := ∀ (a0 : Int) (a1 : ByteArray) (a2 : Int), (Lit.int .i64 a0).wf = true → a1.size ≤ 140737488351232 → (Lit.int .i64 a2).wf = true → ∃ k, counterfoillaw03_FrameCut.f k a0 a1 a2 = some true
theorem counterfoillaw03_FrameCut.walk (P : counterfoillaw03_FrameCut.Pure) (a0 : Int) (a1 : ByteArray) (a2 : Int) (w : World) (w0 : (Lit.int .i64 a0).wf = true) (w1 : a1.size ≤ 140737488351232) (w2 : (Lit.int .i64 a2).wf = true) :
    Calls Try.prog 7 #[.int .i64 a0, .string a1, .int .i64 a2] w fun e w' => e = .returned (.bool true) ∧ Below w.heap.size w w' := by
  obtain ⟨k, h⟩ := P a0 a1 a2 w0 w1 w2
  refine (counterfoillaw03_FrameCut.calls k a0 a1 a2 true w h).mono ?_
  rintro e w' ⟨rfl, hd⟩
  exact ⟨rfl, hd⟩

/-! ### counterfoillaw03_FrameApart: function 8 -/
def counterfoillaw03_FrameApart.j0 : Nat → Int → Int → ByteArray → ByteArray → ByteArray → ByteArray → Bool → Option (Bool)
  | 0, _, _, _, _, _, _, _ => none
  | k + 1, x0, x1, x2, x3, x9, x11, x30 => if x30 = true then ((counterfoillaw03_awake.f k).bind fun t168 => (some t168)) else (if x0 = x1 then (if ((x9.toList == x11.toList) == (x2.toList == x3.toList)) = true then ((counterfoillaw03_awake.f k).bind fun t169 => (some t169)) else (some false)) else (if ((x9.toList == x11.toList) == false) = true then ((counterfoillaw03_awake.f k).bind fun t170 => (some t170)) else (some false)))
def counterfoillaw03_FrameApart.f (k : Nat) (a0 : Int) (a1 : Int) (a2 : ByteArray) (a3 : ByteArray) : Option (Bool) := (frame_Seal.f k a0 a2).bind fun bt164 => ((frame_Seal.f k a1 a3).bind fun bt166 => (if bt164.2 = 0 then (counterfoillaw03_FrameApart.j0 k a0 a1 a2 a3 bt164.1 bt166.1 (bt166.2 != 0)) else (counterfoillaw03_FrameApart.j0 k a0 a1 a2 a3 bt164.1 bt166.1 true)))
theorem counterfoillaw03_FrameApart.mono_l : ∀ k, (∀ y0 y1 y2 y3 y4 y5 y6, LeO (counterfoillaw03_FrameApart.j0 k y0 y1 y2 y3 y4 y5 y6) (counterfoillaw03_FrameApart.j0 (k + 1) y0 y1 y2 y3 y4 y5 y6))
  | 0 => fun _ _ _ _ _ _ _ r h => by simp [counterfoillaw03_FrameApart.j0] at h
  | k + 1 => by
    have ih0 := counterfoillaw03_FrameApart.mono_l k
    · intro y0 y1 y2 y3 y4 y5 y6
      unfold counterfoillaw03_FrameApart.j0
      repeat' first
      | (with_reducible exact ih0 _ _ _ _ _ _ _)
      | (with_reducible exact counterfoillaw03_awake.mono _)
      | (with_reducible exact frame_Seal.mono _ _ _)
      | (with_reducible exact LeO.refl _)
      | (with_reducible exact LeO.none _)
      | (with_reducible refine LeO.ite ?_ ?_)
      | (with_reducible refine LeO.bind ?_ (fun _ => ?_))
      | exact ih0 _ _ _ _ _ _ _
      | exact counterfoillaw03_awake.mono _
      | exact frame_Seal.mono _ _ _
      | exact LeO.none _
      | refine LeO.ite ?_ ?_
      | refine LeO.bind ?_ (fun _ => ?_)
theorem counterfoillaw03_FrameApart.mono : ∀ a0 a1 a2 a3 k, LeO (counterfoillaw03_FrameApart.f k a0 a1 a2 a3) (counterfoillaw03_FrameApart.f (k + 1) a0 a1 a2 a3) := by
  intro a0 a1 a2 a3 k
  have ih0 := counterfoillaw03_FrameApart.mono_l k
  unfold counterfoillaw03_FrameApart.f
  repeat' first
      | (with_reducible exact ih0 _ _ _ _ _ _ _)
      | (with_reducible exact counterfoillaw03_awake.mono _)
      | (with_reducible exact frame_Seal.mono _ _ _)
      | (with_reducible exact LeO.refl _)
      | (with_reducible exact LeO.none _)
      | (with_reducible refine LeO.ite ?_ ?_)
      | (with_reducible refine LeO.bind ?_ (fun _ => ?_))
      | exact ih0 _ _ _ _ _ _ _
      | exact counterfoillaw03_awake.mono _
      | exact frame_Seal.mono _ _ _
      | exact LeO.none _
      | refine LeO.ite ?_ ?_
      | refine LeO.bind ?_ (fun _ => ?_)
set_option maxHeartbeats 8000000 in
set_option maxRecDepth 100000 in
theorem counterfoillaw03_FrameApart.calls (k : Nat) (a0 : Int) (a1 : Int) (a2 : ByteArray) (a3 : ByteArray) (r : Bool) (w : World) (h : counterfoillaw03_FrameApart.f k a0 a1 a2 a3 = some r) :
    Calls Try.prog 8 #[.int .i64 a0, .int .i64 a1, .string a2, .string a3] w fun e w' => e = .returned (.bool r) ∧ Below w.heap.size w w' := by
  have HB := Aside0.mk (Below.refl w.heap.size w)
  have H : ((frame_Seal.f k a0 a2).bind fun bt164 => ((frame_Seal.f k a1 a3).bind fun bt166 => (if bt164.2 = 0 then (counterfoillaw03_FrameApart.j0 k a0 a1 a2 a3 bt164.1 bt166.1 (bt166.2 != 0)) else (counterfoillaw03_FrameApart.j0 k a0 a1 a2 a3 bt164.1 bt166.1 true)))) = some r := h
  clear h
  replace H := Option.bind_eq_some_iff.mp H
  obtain ⟨⟨t164, t165⟩, A50, H⟩ := H
  replace H : ((frame_Seal.f k a1 a3).bind fun bt166 => (if t165 = 0 then (counterfoillaw03_FrameApart.j0 k a0 a1 a2 a3 t164 bt166.1 (bt166.2 != 0)) else (counterfoillaw03_FrameApart.j0 k a0 a1 a2 a3 t164 bt166.1 true))) = some r := H
  have A5 := Aside0.mk A50
  clear A50
  replace H := Option.bind_eq_some_iff.mp H
  obtain ⟨⟨t166, t167⟩, A60, H⟩ := H
  replace H : (if t165 = 0 then (counterfoillaw03_FrameApart.j0 k a0 a1 a2 a3 t164 t166 (t167 != 0)) else (counterfoillaw03_FrameApart.j0 k a0 a1 a2 a3 t164 t166 true)) = some r := H
  have A6 := Aside0.mk A60
  clear A60
  have HC7 := Aside0.mk H
  clear H
  go_enter Try.func8, Try.ntmps8
  go_upto_region 3 with (first | ((with_reducible refine gate_callee (f := 9) rfl ?_); refine goesL_ (some 16) rfl rfl Try.func9 (by kernel_rfl) rfl #[.int .i64 a0, .string a2] rfl (by (try simp only [List.map_toArray, List.map_cons, List.map_nil]); first | done | rfl | (simp only [List.length_drop, List.length_take]; rfl)) ?_; (with_reducible refine (frame_Seal.calls k a0 a2 t164 t165 _ A5.out).mono ?_); rintro e w8 ⟨rfl, hb⟩; refine ⟨_, rfl, ?_⟩; have n0_ := Aside0.mk (below_step (by repeat (first | (with_reducible first | exact HB.out | apply below_alloc | apply pw_below_drewN | apply below_drew1) | exact HB.out)) hb); clear HB; have HB := n0_; clear n0_; (try clear hb); (try clear hb2); (try clear hk); (try clear hi)) | ((with_reducible refine gate_callee (f := 9) rfl ?_); refine goesL_ (some 22) rfl rfl Try.func9 (by kernel_rfl) rfl #[.int .i64 a1, .string a3] rfl (by (try simp only [List.map_toArray, List.map_cons, List.map_nil]); first | done | rfl | (simp only [List.length_drop, List.length_take]; rfl)) ?_; (with_reducible refine (frame_Seal.calls k a1 a3 t166 t167 _ A6.out).mono ?_); rintro e w9 ⟨rfl, hb⟩; refine ⟨_, rfl, ?_⟩; have n0_ := Aside0.mk (below_step (by repeat (first | (with_reducible first | exact HB.out | apply below_alloc | apply pw_below_drewN | apply below_drew1) | exact HB.out)) hb); clear HB; have HB := n0_; clear n0_; (try clear hb); (try clear hb2); (try clear hk); (try clear hi)))
  (try simp only [Act.put, List.setIfInBounds_toArray, List.set_cons_zero, List.set_cons_succ])
  go_cut [30] (fun v30 wc => ∃ (kq : Nat) (x30_6 : Bool), v30 = .bool x30_6 ∧ Aside0 (counterfoillaw03_FrameApart.j0 kq a0 a1 a2 a3 t164 t166 x30_6 = some r) ∧ Aside0 (kq ≤ k) ∧ Aside0 (Below w.heap.size w wc))
  case first =>
    have H := HC7.out
    clear HC7
    by_cases c10 : t165 = 0
    · rw [if_pos c10] at H
      have c10b0 : (t165 == 0) = true := beq_iff_eq.mpr c10
      have c10b1 : (t165 != 0) = false := bne_eq_false_iff_eq.mpr c10
      clear c10
      (first | rw [c10b0] | (simp only [i64_w, i32_w]; rw [c10b0]) | skip)
      have H' := Aside0.mk H
      clear H
      go_wp2
      go_meet
      case rel => exact ⟨_, ((t167 != 0)), (by first | rfl | (simp; done) | (simp [*]; done)), H', ⟨by first | omega | exact Nat.le_refl _⟩, ⟨by repeat (first | (with_reducible first | exact HB.out | apply below_alloc | apply pw_below_drewN | apply below_drew1) | exact HB.out)⟩⟩
    · rw [if_neg c10] at H
      have c10b0 : (t165 == 0) = false := beq_eq_false_iff_ne.mpr c10
      have c10b1 : (t165 != 0) = true := bne_iff_ne.mpr c10
      (first | rw [c10b0] | (simp only [i64_w, i32_w]; rw [c10b0]) | skip)
      have H' := Aside0.mk H
      clear H
      go_wp2
      go_meet
      case rel => exact ⟨_, (true), (by first | rfl | (simp; done) | (simp [*]; done)), H', ⟨by first | omega | exact Nat.le_refl _⟩, ⟨by repeat (first | (with_reducible first | exact HB.out | apply below_alloc | apply pw_below_drewN | apply below_drew1) | exact HB.out)⟩⟩
  case rest =>
    clear HC7
    try clear c1
    try clear p2
    try clear c8
    try clear c9
    try clear c10
    try clear c10b0
    try clear c10b1
    obtain ⟨kq, x30_6, rfl, HA, HJ6, HB⟩ := hcut
    cases kq with
    | zero => exact absurd HA.out (by simp [counterfoillaw03_FrameApart.j0])
    | succ kj6 =>
      have H := HA.out
      clear HA
      simp only [counterfoillaw03_FrameApart.j0] at H
      by_cases c11 : x30_6 = true
      · subst c11
        have H1 : ((counterfoillaw03_awake.f kj6).bind fun t168 => (some t168)) = some r := by rw [if_pos rfl] at H; exact H
        clear H
        have H := H1
        clear H1
        replace H := Option.bind_eq_some_iff.mp H
        obtain ⟨t168, A120, H⟩ := H
        replace H : (some t168) = some r := H
        have A12 := Aside0.mk A120
        clear A120
        obtain rfl := Option.some.inj H
        go_wp2_with (first | ((with_reducible refine gate_callee (f := 11) rfl ?_); refine goesL_ (some 31) rfl rfl Try.func11 (by kernel_rfl) rfl #[] rfl (by (try simp only [List.map_toArray, List.map_cons, List.map_nil]); first | done | rfl | (simp only [List.length_drop, List.length_take]; rfl)) ?_; (with_reducible refine (counterfoillaw03_awake.calls kj6  t168 _ A12.out).mono ?_); rintro e w13 ⟨rfl, hb⟩; refine ⟨_, rfl, ?_⟩; have n0_ := Aside0.mk (below_step (by repeat (first | (with_reducible first | exact HB.out | apply below_alloc | apply pw_below_drewN | apply below_drew1) | exact HB.out)) hb); clear HB; have HB := n0_; clear n0_; (try clear hb); (try clear hb2); (try clear hk); (try clear hi)))
        go_ret
        exact ⟨by first | rfl | (simp [errW_none, errW_some] <;> rfl) | (simp [*, errW_none, errW_some] <;> rfl), by repeat (first | (with_reducible first | exact HB.out | apply below_alloc | apply pw_below_drewN | apply below_drew1) | exact HB.out)⟩
      · replace c11 := Bool.eq_false_iff.mpr c11
        subst c11
        have H1 : (if a0 = a1 then (if ((t164.toList == t166.toList) == (a2.toList == a3.toList)) = true then ((counterfoillaw03_awake.f kj6).bind fun t169 => (some t169)) else (some false)) else (if ((t164.toList == t166.toList) == false) = true then ((counterfoillaw03_awake.f kj6).bind fun t170 => (some t170)) else (some false))) = some r := by rw [if_neg (show ¬ (false = true) by decide)] at H; exact H
        clear H
        have H := H1
        clear H1
        by_cases c14 : a0 = a1
        · rw [if_pos c14] at H
          have c14b0 : (a0 == a1) = true := beq_iff_eq.mpr c14
          have c14b1 : (a0 != a1) = false := bne_eq_false_iff_eq.mpr c14
          clear c14
          by_cases c15 : ((t164.toList == t166.toList) == (a2.toList == a3.toList)) = true
          · rw [if_pos c15] at H
            have c15b0 : ((t164.toList == t166.toList) == (a2.toList == a3.toList)) = true := c15
            (try (have c15b1 : decide ((t164.toList == t166.toList) = (a2.toList == a3.toList)) = true := by simpa using c15))
            (try (have c15b2 : ((t164.toList == t166.toList) == (a2.toList == a3.toList)) = true := by simpa using c15))
            clear c15
            replace H := Option.bind_eq_some_iff.mp H
            obtain ⟨t169, A160, H⟩ := H
            replace H : (some t169) = some r := H
            have A16 := Aside0.mk A160
            clear A160
            obtain rfl := Option.some.inj H
            go_wp2_with (first | (go_at_call 11; (with_reducible refine (counterfoillaw03_awake.calls kj6  t169 _ A16.out).mono ?_); rintro e w17 ⟨rfl, hb⟩; have n0_ := Aside0.mk (below_step (by repeat (first | (with_reducible first | exact HB.out | apply below_alloc | apply pw_below_drewN | apply below_drew1) | exact HB.out)) hb); clear HB; have HB := n0_; clear n0_; (try clear hb); (try clear hb2); (try clear hk); (try clear hi)))
            go_ret
            exact ⟨by first | rfl | (simp [errW_none, errW_some] <;> rfl) | (simp [*, errW_none, errW_some] <;> rfl), by repeat (first | (with_reducible first | exact HB.out | apply below_alloc | apply pw_below_drewN | apply below_drew1) | exact HB.out)⟩
          · rw [if_neg c15] at H
            have c15b0 : ((t164.toList == t166.toList) == (a2.toList == a3.toList)) = false := by simpa using c15
            (try (have c15b1 : decide ((t164.toList == t166.toList) = (a2.toList == a3.toList)) = false := by simpa using c15))
            (try (have c15b2 : ((t164.toList == t166.toList) == (a2.toList == a3.toList)) = false := by simpa using c15))
            (try (have c15b3 : ¬ ((t164.toList == t166.toList) = (a2.toList == a3.toList)) := by simpa using c15))
            clear c15
            obtain rfl := Option.some.inj H
            go_wp2
            go_ret
            exact ⟨by first | rfl | (simp [errW_none, errW_some] <;> rfl) | (simp [*, errW_none, errW_some] <;> rfl), by repeat (first | (with_reducible first | exact HB.out | apply below_alloc | apply pw_below_drewN | apply below_drew1) | exact HB.out)⟩
        · rw [if_neg c14] at H
          have c14b0 : (a0 == a1) = false := beq_eq_false_iff_ne.mpr c14
          have c14b1 : (a0 != a1) = true := bne_iff_ne.mpr c14
          by_cases c18 : ((t164.toList == t166.toList) == false) = true
          · rw [if_pos c18] at H
            have c18b0 : ((t164.toList == t166.toList) == false) = true := c18
            (try (have c18b1 : decide ((t164.toList == t166.toList) = false) = true := by simpa using c18))
            (try (have c18b2 : ((t164.toList == t166.toList) == false) = true := by simpa using c18))
            clear c18
            replace H := Option.bind_eq_some_iff.mp H
            obtain ⟨t170, A190, H⟩ := H
            replace H : (some t170) = some r := H
            have A19 := Aside0.mk A190
            clear A190
            obtain rfl := Option.some.inj H
            go_wp2_with (first | (go_at_call 11; (with_reducible refine (counterfoillaw03_awake.calls kj6  t170 _ A19.out).mono ?_); rintro e w20 ⟨rfl, hb⟩; have n0_ := Aside0.mk (below_step (by repeat (first | (with_reducible first | exact HB.out | apply below_alloc | apply pw_below_drewN | apply below_drew1) | exact HB.out)) hb); clear HB; have HB := n0_; clear n0_; (try clear hb); (try clear hb2); (try clear hk); (try clear hi)))
            go_ret
            exact ⟨by first | rfl | (simp [errW_none, errW_some] <;> rfl) | (simp [*, errW_none, errW_some] <;> rfl), by repeat (first | (with_reducible first | exact HB.out | apply below_alloc | apply pw_below_drewN | apply below_drew1) | exact HB.out)⟩
          · rw [if_neg c18] at H
            have c18b0 : ((t164.toList == t166.toList) == false) = false := by simpa using c18
            (try (have c18b1 : decide ((t164.toList == t166.toList) = false) = false := by simpa using c18))
            (try (have c18b2 : ((t164.toList == t166.toList) == false) = false := by simpa using c18))
            (try (have c18b3 : ¬ ((t164.toList == t166.toList) = false) := by simpa using c18))
            clear c18
            obtain rfl := Option.some.inj H
            go_wp2
            go_ret
            exact ⟨by first | rfl | (simp [errW_none, errW_some] <;> rfl) | (simp [*, errW_none, errW_some] <;> rfl), by repeat (first | (with_reducible first | exact HB.out | apply below_alloc | apply pw_below_drewN | apply below_drew1) | exact HB.out)⟩

/-- THE ONE PURE STATEMENT of counterfoillaw03_FrameApart: yours. -/
def counterfoillaw03_FrameApart.Pure : Prop := ∀ (a0 : Int) (a1 : Int) (a2 : ByteArray) (a3 : ByteArray), (Lit.int .i64 a0).wf = true → (Lit.int .i64 a1).wf = true → a2.size ≤ 140737488351232 → a3.size ≤ 140737488351232 → ∃ k, counterfoillaw03_FrameApart.f k a0 a1 a2 a3 = some true
theorem counterfoillaw03_FrameApart.walk (P : counterfoillaw03_FrameApart.Pure) (a0 : Int) (a1 : Int) (a2 : ByteArray) (a3 : ByteArray) (w : World) (w0 : (Lit.int .i64 a0).wf = true) (w1 : (Lit.int .i64 a1).wf = true) (w2 : a2.size ≤ 140737488351232) (w3 : a3.size ≤ 140737488351232) :
    Calls Try.prog 8 #[.int .i64 a0, .int .i64 a1, .string a2, .string a3] w fun e w' => e = .returned (.bool true) ∧ Below w.heap.size w w' := by
  obtain ⟨k, h⟩ := P a0 a1 a2 a3 w0 w1 w2 w3
  refine (counterfoillaw03_FrameApart.calls k a0 a1 a2 a3 true w h).mono ?_
  rintro e w' ⟨rfl, hd⟩
  exact ⟨rfl, hd⟩

end Go.Proofs.Ytkkkocemdjekcaa.P
