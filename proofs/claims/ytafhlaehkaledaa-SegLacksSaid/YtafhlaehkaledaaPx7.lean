-- Printed by this session's own program wip/mprint.py
import Derived.Test.YtafhlaehkaledaaPx0
import Derived.Test.YtafhlaehkaledaaPx1
import Derived.Test.YtafhlaehkaledaaPx4
namespace Go.Proofs.Ytafhlaehkaledaa.P
open Go.RowKit Go.Proofs.YtafhlaehkaledaaW.PrintWords Go.Proofs.YtafhlaehkaledaaW.PrintLast Go.Proofs.YtafhlaehkaledaaW.PrintMore
attribute [local go_sem] max2_int min2_int max_two min_two max_three min_three max_four min_four   -- for this text's walks alone
set_option linter.unusedVariables false
set_option linter.unusedSimpArgs false

/-! ### counterfoillaw14_SegLacks: function 8 -/
mutual
def counterfoillaw14_SegLacks.j0 : Nat → Int → List ByteArray → Bool → Option (Bool)
  | 0, _, _, _ => none
  | k + 1, x2, x7, x34 => if x34 = true then ((counterfoillaw14_awake.f k).bind fun t253 => (some t253)) else (counterfoillaw14_SegLacks.l0 k x2 x7 (x7.length : Int) 0 0 ([] : List ByteArray))
def counterfoillaw14_SegLacks.l0 : Nat → Int → List ByteArray → Int → Int → Int → List ByteArray → Option (Bool)
  | 0, _, _, _, _, _, _ => none
  | k + 1, x2, x36, x37, x38, x255000, x255001 => if x38 < x37 then (if 0 ≤ x38 then (if x38 < (x36.length : Int) then (if x38 = x2 then (counterfoillaw14_SegLacks.l0 k x2 x36 x37 (wrap64 (x38 + 1)) x255000 x255001) else ((seg_Feed.f k x255000 x255001 (rdOf ByteArray.empty x36 x38)).bind fun bt257 => (if bt257.2.2.2.1 = true then (some false) else (counterfoillaw14_SegLacks.l0 k x2 x36 x37 (wrap64 (x38 + 1)) bt257.1 bt257.2.1)))) else (none)) else (none)) else ((counterfoillaw14_awake.f k).bind fun t255 => (some t255))
end
def counterfoillaw14_SegLacks.f (k : Nat) (a0 : ByteArray) (a1 : Int) (a2 : Int) : Option (Bool) := if (a0.size : Int) > 4096 then ((counterfoillaw14_awake.f k).bind fun t248 => (some t248)) else ((seg_Cut.f k a0 a1).bind fun bt249 => (if bt249.2 = 0 then (if a2 < 0 then (counterfoillaw14_SegLacks.j0 k a2 bt249.1 true) else (counterfoillaw14_SegLacks.j0 k a2 bt249.1 (decide (a2 ≥ (bt249.1.length : Int))))) else (counterfoillaw14_SegLacks.j0 k a2 bt249.1 true)))
theorem counterfoillaw14_SegLacks.mono_l : ∀ k, (∀ y0 y1 y2, LeO (counterfoillaw14_SegLacks.j0 k y0 y1 y2) (counterfoillaw14_SegLacks.j0 (k + 1) y0 y1 y2)) ∧ (∀ y0 y1 y2 y3 y4 y5, LeO (counterfoillaw14_SegLacks.l0 k y0 y1 y2 y3 y4 y5) (counterfoillaw14_SegLacks.l0 (k + 1) y0 y1 y2 y3 y4 y5))
  | 0 => ⟨fun _ _ _ r h => by simp [counterfoillaw14_SegLacks.j0] at h, fun _ _ _ _ _ _ r h => by simp [counterfoillaw14_SegLacks.l0] at h⟩
  | k + 1 => by
    obtain ⟨ih0, ih1⟩ := counterfoillaw14_SegLacks.mono_l k
    refine ⟨?_, ?_⟩
    · intro y0 y1 y2
      unfold counterfoillaw14_SegLacks.j0
      repeat' first
      | (with_reducible exact ih0 _ _ _)
      | (with_reducible exact ih1 _ _ _ _ _ _)
      | (with_reducible exact counterfoillaw14_awake.mono _)
      | (with_reducible exact seg_Cut.mono _ _ _)
      | (with_reducible exact seg_Feed.mono _ _ _ _)
      | (with_reducible exact LeO.refl _)
      | (with_reducible exact LeO.none _)
      | (with_reducible refine LeO.ite ?_ ?_)
      | (with_reducible refine LeO.bind ?_ (fun _ => ?_))
      | exact ih0 _ _ _
      | exact ih1 _ _ _ _ _ _
      | exact counterfoillaw14_awake.mono _
      | exact seg_Cut.mono _ _ _
      | exact seg_Feed.mono _ _ _ _
      | exact LeO.none _
      | refine LeO.ite ?_ ?_
      | refine LeO.bind ?_ (fun _ => ?_)
    · intro y0 y1 y2 y3 y4 y5
      unfold counterfoillaw14_SegLacks.l0
      repeat' first
      | (with_reducible exact ih0 _ _ _)
      | (with_reducible exact ih1 _ _ _ _ _ _)
      | (with_reducible exact counterfoillaw14_awake.mono _)
      | (with_reducible exact seg_Cut.mono _ _ _)
      | (with_reducible exact seg_Feed.mono _ _ _ _)
      | (with_reducible exact LeO.refl _)
      | (with_reducible exact LeO.none _)
      | (with_reducible refine LeO.ite ?_ ?_)
      | (with_reducible refine LeO.bind ?_ (fun _ => ?_))
      | exact ih0 _ _ _
      | exact ih1 _ _ _ _ _ _
      | exact counterfoillaw14_awake.mono _
      | exact seg_Cut.mono _ _ _
      | exact seg_Feed.mono _ _ _ _
      | exact LeO.none _
      | refine LeO.ite ?_ ?_
      | refine LeO.bind ?_ (fun _ => ?_)
theorem counterfoillaw14_SegLacks.mono : ∀ a0 a1 a2 k, LeO (counterfoillaw14_SegLacks.f k a0 a1 a2) (counterfoillaw14_SegLacks.f (k + 1) a0 a1 a2) := by
  intro a0 a1 a2 k
  obtain ⟨ih0, ih1⟩ := counterfoillaw14_SegLacks.mono_l k
  unfold counterfoillaw14_SegLacks.f
  repeat' first
      | (with_reducible exact ih0 _ _ _)
      | (with_reducible exact ih1 _ _ _ _ _ _)
      | (with_reducible exact counterfoillaw14_awake.mono _)
      | (with_reducible exact seg_Cut.mono _ _ _)
      | (with_reducible exact seg_Feed.mono _ _ _ _)
      | (with_reducible exact LeO.refl _)
      | (with_reducible exact LeO.none _)
      | (with_reducible refine LeO.ite ?_ ?_)
      | (with_reducible refine LeO.bind ?_ (fun _ => ?_))
      | exact ih0 _ _ _
      | exact ih1 _ _ _ _ _ _
      | exact counterfoillaw14_awake.mono _
      | exact seg_Cut.mono _ _ _
      | exact seg_Feed.mono _ _ _ _
      | exact LeO.none _
      | refine LeO.ite ?_ ?_
      | refine LeO.bind ?_ (fun _ => ?_)
set_option maxHeartbeats 8000000 in
set_option maxRecDepth 100000 in
theorem counterfoillaw14_SegLacks.calls (k : Nat) (a0 : ByteArray) (a1 : Int) (a2 : Int) (r : Bool) (w : World) (h : counterfoillaw14_SegLacks.f k a0 a1 a2 = some r) :
    Calls Try.prog 8 #[.string a0, .int .i64 a1, .int .i64 a2] w fun e w' => e = .returned (.bool r) ∧ Below w.heap.size w w' := by
  have hu35 := Try.underlying35
  have HB := Aside0.mk (Below.refl w.heap.size w)
  have H : (if (a0.size : Int) > 4096 then ((counterfoillaw14_awake.f k).bind fun t248 => (some t248)) else ((seg_Cut.f k a0 a1).bind fun bt249 => (if bt249.2 = 0 then (if a2 < 0 then (counterfoillaw14_SegLacks.j0 k a2 bt249.1 true) else (counterfoillaw14_SegLacks.j0 k a2 bt249.1 (decide (a2 ≥ (bt249.1.length : Int))))) else (counterfoillaw14_SegLacks.j0 k a2 bt249.1 true)))) = some r := h
  clear h
  by_cases c4 : (a0.size : Int) > 4096
  · rw [if_pos c4] at H
    have c4b0 : decide (4096 < (a0.size : Int)) = true := decide_eq_true c4
    have c4b1 : decide (4096 < a0.size) = true := decide_eq_true (by omega)
    clear c4
    replace H := Option.bind_eq_some_iff.mp H
    obtain ⟨t248, A50, H⟩ := H
    replace H : (some t248) = some r := H
    have A5 := Aside0.mk A50
    clear A50
    obtain rfl := Option.some.inj H
    go_enter Try.func8, Try.ntmps8
    go_wp2_with (first | ((with_reducible refine gate_callee (f := 9) rfl ?_); refine goesL_ (some 16) rfl rfl Try.func9 (by kernel_rfl) rfl #[] rfl (by (try simp only [List.map_toArray, List.map_cons, List.map_nil]); first | done | rfl | (simp only [List.length_drop, List.length_take]; rfl)) ?_; (with_reducible refine (counterfoillaw14_awake.calls k  t248 _ A5.out).mono ?_); rintro e w6 ⟨rfl, hb⟩; refine ⟨_, rfl, ?_⟩; have n0_ := Aside0.mk (below_step (by repeat (first | (with_reducible first | exact HB.out | apply below_alloc | apply pw_below_drewN | apply below_drew1) | exact HB.out)) hb); clear HB; have HB := n0_; clear n0_; (try clear hb); (try clear hb2); (try clear hk); (try clear hi)))
    go_ret
    exact ⟨by first | rfl | (simp [errW_none, errW_some] <;> rfl) | (simp [*, errW_none, errW_some] <;> rfl), by repeat (first | (with_reducible first | exact HB.out | apply below_alloc | apply pw_below_drewN | apply below_drew1) | exact HB.out)⟩
  · rw [if_neg c4] at H
    have c4b0 : decide (4096 < (a0.size : Int)) = false := decide_eq_false c4
    have c4b1 : decide (4096 < a0.size) = false := decide_eq_false (by omega)
    clear c4
    replace H := Option.bind_eq_some_iff.mp H
    obtain ⟨⟨t249, t250⟩, A70, H⟩ := H
    replace H : (if t250 = 0 then (if a2 < 0 then (counterfoillaw14_SegLacks.j0 k a2 t249 true) else (counterfoillaw14_SegLacks.j0 k a2 t249 (decide (a2 ≥ (t249.length : Int))))) else (counterfoillaw14_SegLacks.j0 k a2 t249 true)) = some r := H
    have A7 := Aside0.mk A70
    clear A70
    have HC8 := Aside0.mk H
    clear H
    go_enter Try.func8, Try.ntmps8
    go_upto_region 4 with (first | ((with_reducible refine gate_callee (f := 10) rfl ?_); refine goesL_ (some 20) rfl rfl Try.func10 (by kernel_rfl) rfl #[.string a0, .int .i64 a1] rfl (by (try simp only [List.map_toArray, List.map_cons, List.map_nil]); first | done | rfl | (simp only [List.length_drop, List.length_take]; rfl)) ?_; (with_reducible refine (seg_Cut.calls k a0 a1 t249 t250 _ A7.out).mono ?_); rintro e w9 ⟨v251, rfl, ho0, hb⟩; refine ⟨_, rfl, ?_⟩; have n0_ := Aside0.mk (Kd.R_lower ho0 (below_size (by repeat (first | (with_reducible first | exact HB.out | apply below_alloc | apply pw_below_drewN | apply below_drew1) | exact HB.out)))); have n1_ := Aside0.mk (below_step (by repeat (first | (with_reducible first | exact HB.out | apply below_alloc | apply pw_below_drewN | apply below_drew1) | exact HB.out)) hb); clear HB; have HO252 := n0_; have HB := n1_; clear n0_ n1_; (try clear hb); (try clear hb2); (try clear hk); (try clear hi); (try clear ho0)))
    (try simp only [Act.put, List.setIfInBounds_toArray, List.set_cons_zero, List.set_cons_succ])
    go_cut [34] (fun v34 wc => ∃ (kq : Nat) (x34_7 : Bool), v34 = .bool x34_7 ∧ Aside0 (counterfoillaw14_SegLacks.j0 kq a2 t249 x34_7 = some r) ∧ Aside0 (kq ≤ k) ∧ Aside0 (Kd.R Kd.string 9 wc w.heap.size (fun _ => True) v251 t249) ∧ Aside0 (Below w.heap.size w wc))
    case first =>
      have H := HC8.out
      clear HC8
      by_cases c10 : t250 = 0
      · rw [if_pos c10] at H
        have c10b0 : (t250 == 0) = true := beq_iff_eq.mpr c10
        have c10b1 : (t250 != 0) = false := bne_eq_false_iff_eq.mpr c10
        clear c10
        (first | rw [c10b0] | (simp only [i64_w, i32_w]; rw [c10b0]) | skip)
        by_cases c11 : a2 < 0
        · rw [if_pos c11] at H
          have c11b0 : decide (a2 < 0) = true := decide_eq_true c11
          clear c11
          have H' := Aside0.mk H
          clear H
          go_wp2
          go_meet
          case rel => exact ⟨_, (true), (by first | rfl | (simp; done) | (simp [*]; done)), H', ⟨by first | omega | exact Nat.le_refl _⟩, ⟨by (with_reducible repeat (first | apply Kd.R_alloc | apply Kd.R_drewN | apply Kd.R_drew)); exact HO252.out⟩, ⟨by repeat (first | (with_reducible first | exact HB.out | apply below_alloc | apply pw_below_drewN | apply below_drew1) | exact HB.out)⟩⟩
        · rw [if_neg c11] at H
          have c11b0 : decide (a2 < 0) = false := decide_eq_false c11
          clear c11
          have H' := Aside0.mk H
          clear H
          obtain ⟨Ao12, co12, eo12⟩ := Kd.R_slice HO252.out
          subst eo12
          go_wp2
          go_meet
          case rel => exact ⟨_, (decide (a2 ≥ (t249.length : Int))), (by first | rfl | (simp; done) | (simp [*]; done)), H', ⟨by first | omega | exact Nat.le_refl _⟩, ⟨by (with_reducible repeat (first | apply Kd.R_alloc | apply Kd.R_drewN | apply Kd.R_drew)); exact HO252.out⟩, ⟨by repeat (first | (with_reducible first | exact HB.out | apply below_alloc | apply pw_below_drewN | apply below_drew1) | exact HB.out)⟩⟩
      · rw [if_neg c10] at H
        have c10b0 : (t250 == 0) = false := beq_eq_false_iff_ne.mpr c10
        have c10b1 : (t250 != 0) = true := bne_iff_ne.mpr c10
        (first | rw [c10b0] | (simp only [i64_w, i32_w]; rw [c10b0]) | skip)
        have H' := Aside0.mk H
        clear H
        go_wp2
        go_meet
        case rel => exact ⟨_, (true), (by first | rfl | (simp; done) | (simp [*]; done)), H', ⟨by first | omega | exact Nat.le_refl _⟩, ⟨by (with_reducible repeat (first | apply Kd.R_alloc | apply Kd.R_drewN | apply Kd.R_drew)); exact HO252.out⟩, ⟨by repeat (first | (with_reducible first | exact HB.out | apply below_alloc | apply pw_below_drewN | apply below_drew1) | exact HB.out)⟩⟩
    case rest =>
      clear HC8
      try clear c1
      try clear p2
      try clear c4
      try clear c4b0
      try clear c4b1
      try clear c8
      try clear c9
      try clear c10
      try clear c10b0
      try clear c10b1
      try clear c11
      try clear c11b0
      obtain ⟨kq, x34_7, rfl, HA, HJ7, HO_7, HB⟩ := hcut
      cases kq with
      | zero => exact absurd HA.out (by simp [counterfoillaw14_SegLacks.j0])
      | succ kj7 =>
        have H := HA.out
        clear HA
        simp only [counterfoillaw14_SegLacks.j0] at H
        by_cases c13 : x34_7 = true
        · subst c13
          have H1 : ((counterfoillaw14_awake.f kj7).bind fun t253 => (some t253)) = some r := by rw [if_pos rfl] at H; exact H
          clear H
          have H := H1
          clear H1
          replace H := Option.bind_eq_some_iff.mp H
          obtain ⟨t253, A140, H⟩ := H
          replace H : (some t253) = some r := H
          have A14 := Aside0.mk A140
          clear A140
          obtain rfl := Option.some.inj H
          go_wp2_with (first | ((with_reducible refine gate_callee (f := 9) rfl ?_); refine goesL_ (some 35) rfl rfl Try.func9 (by kernel_rfl) rfl #[] rfl (by (try simp only [List.map_toArray, List.map_cons, List.map_nil]); first | done | rfl | (simp only [List.length_drop, List.length_take]; rfl)) ?_; (with_reducible refine (counterfoillaw14_awake.calls kj7  t253 _ A14.out).mono ?_); rintro e w15 ⟨rfl, hb⟩; refine ⟨_, rfl, ?_⟩; have n0_ := Aside0.mk (Kd.R_below (by (with_reducible repeat (first | apply Kd.R_alloc | apply Kd.R_drewN | apply Kd.R_drew)); exact HO_7.out) hb); have n1_ := Aside0.mk (below_step (by repeat (first | (with_reducible first | exact HB.out | apply below_alloc | apply pw_below_drewN | apply below_drew1) | exact HB.out)) hb); clear HO_7; clear HB; have HO_7 := n0_; have HB := n1_; clear n0_ n1_; (try clear hb); (try clear hb2); (try clear hk); (try clear hi)))
          go_ret
          exact ⟨by first | rfl | (simp [errW_none, errW_some] <;> rfl) | (simp [*, errW_none, errW_some] <;> rfl), by repeat (first | (with_reducible first | exact HB.out | apply below_alloc | apply pw_below_drewN | apply below_drew1) | exact HB.out)⟩
        · replace c13 := Bool.eq_false_iff.mpr c13
          subst c13
          have H1 : (counterfoillaw14_SegLacks.l0 kj7 a2 t249 (t249.length : Int) 0 0 ([] : List ByteArray)) = some r := by rw [if_neg (show ¬ (false = true) by decide)] at H; exact H
          clear H
          have H := H1
          clear H1
          have H' := Aside0.mk H
          clear H
          go_wp2_with (first | ((with_reducible refine gate_dst (N := 9) rfl ?_); (try (refine gate_guard (by rfl) ?_; dsimp only)); refine box_event ?hg (N := 9) ?hd (cs := #[.int .i64 0, .slice none 0 0]) (t := 35) ?hr ?_; (case hd => rfl); (case hg => rfl); (case hr => first | (go_simp; done) | (go_simp; rfl) | (go_simp; simp only [w64m])); intro gb254 hg w16 hbox hb; have n0_ := Aside0.mk (Kd.R_below (by (with_reducible repeat (first | apply Kd.R_alloc | apply Kd.R_drewN | apply Kd.R_drew)); exact HO_7.out) hb); have n1_ := Aside0.mk (below_step (by repeat (first | (with_reducible first | exact HB.out | apply below_alloc | apply pw_below_drewN | apply below_drew1) | exact HB.out)) hb); have n2_ := Aside0.mk (hbox); have n3_ := Aside0.mk ((by rw [hg]; exact (below_size (by repeat (first | (with_reducible first | exact HB.out | apply below_alloc | apply pw_below_drewN | apply below_drew1) | exact HB.out))) : w.heap.size ≤ gb254)); have n4_ := Aside0.mk ((by rw [hg]; exact (below_size (by repeat (first | (with_reducible first | exact HB.out | apply below_alloc | apply pw_below_drewN | apply below_drew1) | exact HB.out))) : w.heap.size ≤ gb254)); clear HO_7; clear HB; have HO_7 := n0_; have HB := n1_; have BK254 := n2_; have GW254 := n3_; have GE254 := n4_; clear n0_ n1_ n2_ n3_ n4_; clear hb hbox hg; obtain ⟨Ao17, co17, eo17⟩ := Kd.R_slice HO_7.out; subst eo17))
          go_loopg [38] kj7 (fun kq v38 w' => ∃ (x38_2 : Int) (x255000_2 : Int) (x255001_2 : List ByteArray) (u255001 : Value), v38 = .int .i64 x38_2 ∧ Aside0 (counterfoillaw14_SegLacks.l0 kq a2 t249 (t249.length : Int) x38_2 x255000_2 x255001_2 = some r) ∧ Aside0 (kq ≤ kj7) ∧ Aside0 (Kd.R Kd.string 9 w' w.heap.size (fun k_ => some k_ ≠ (u255001 : Value).ownBlock) (.slice Ao17 t249.length co17) t249) ∧ Aside0 (Kd.R Kd.string 9 w' w.heap.size (fun k_ => some k_ ≠ ((.slice Ao17 t249.length co17) : Value).ownBlock) u255001 x255001_2) ∧ Aside0 (w'.heap[gb254]? = some (.cells #[.int .i64 x255000_2, u255001] 35 (0, 0))) ∧ Aside0 (Below w.heap.size w w'))
          case atStart => exact ⟨(0), (0), (([] : List ByteArray)), (.slice none 0 0), (by first | rfl | (simp; done) | (simp [*]; done)), H', ⟨Nat.le_refl _⟩, ⟨by (with_reducible repeat (first | apply Kd.R_alloc | apply Kd.R_drewN | apply Kd.R_drew)); exact Kd.R_mono HO_7.out (fun _ hk => (by simp [Value.ownBlock]))⟩, ⟨by first | exact Kd.R_nil _ _ _ _ _ | exact Kd.N_nil _ _ _ _ _ | exact Kd.V_nil _ _ _ _ _ | exact Kd.Q_nil _ _ _ _ _ | exact Kd.S_nil _ _ _ _ _⟩, ⟨by (with_reducible repeat (first | refine blk_drewN ?_ _ | refine blk_drew ?_ | refine blk_alloc ?_ _)); exact BK254.out⟩, ⟨by repeat (first | (with_reducible first | exact HB.out | apply below_alloc | apply pw_below_drewN | apply below_drew1 | refine below_set ?_ GE254.out) | exact HB.out)⟩⟩
          case round =>
            clear H'
            try clear c1
            try clear p2
            try clear c4
            try clear c4b0
            try clear c4b1
            try clear c8
            try clear c9
            try clear c10
            try clear c10b0
            try clear c10b1
            try clear c11
            try clear c11b0
            try clear c13
            try clear p2
            obtain ⟨x38_2, x255000_2, x255001_2, u255001, rfl, HA, HK2, HO_36, HO_255001, BK254, HB⟩ := hrel
            cases gk with
            | zero => exact absurd HA.out (by simp [counterfoillaw14_SegLacks.l0])
            | succ k2 =>
              have H := HA.out
              clear HA
              simp only [counterfoillaw14_SegLacks.l0] at H
              by_cases c18 : x38_2 < (t249.length : Int)
              · rw [if_pos c18] at H
                have c18b0 : decide (x38_2 < (t249.length : Int)) = true := decide_eq_true c18
                clear c18
                by_cases c19 : 0 ≤ x38_2
                · rw [if_pos c19] at H
                  have c19b0 : decide (0 ≤ x38_2) = true := decide_eq_true c19
                  clear c19
                  by_cases c20 : x38_2 < (t249.length : Int)
                  · rw [if_pos c20] at H
                    have c20b0 : decide (x38_2 < (t249.length : Int)) = true := decide_eq_true c20
                    clear c20
                    by_cases c21 : x38_2 = a2
                    · rw [if_pos c21] at H
                      have c21b0 : (x38_2 == a2) = true := beq_iff_eq.mpr c21
                      have c21b1 : (x38_2 != a2) = false := bne_eq_false_iff_eq.mpr c21
                      clear c21
                      have H' := Aside0.mk H
                      clear H
                      have p256 : 0 ≤ (x38_2 : Int) := of_decide_eq_true (by first | (with_reducible assumption) | assumption)
                      have q256 : x38_2 < (t249.length : Int) := of_decide_eq_true (by first | (with_reducible assumption) | assumption)
                      obtain ⟨ad256, e256, hx256_0⟩ := Kd.at_string (Kd.R_reads' HO_36.out).2.2 x38_2 p256 q256
                      cases e256
                      replace p256 := eq_true p256
                      replace q256 := eq_true q256
                      go_wp2
                      go_roundg k2
                      case measure => have := HJ7.out; have := HK2.out; omega
                      case rel => exact ⟨(wrap64 (x38_2 + 1)), (x255000_2), (x255001_2), (u255001), (by first | rfl | (simp; done) | (simp [*]; done)), H', ⟨by have := HJ7.out; have := HK2.out; omega⟩, ⟨by (with_reducible repeat (first | apply Kd.R_alloc | apply Kd.R_drewN | apply Kd.R_drew)); exact HO_36.out⟩, ⟨by (with_reducible repeat (first | apply Kd.R_alloc | apply Kd.R_drewN | apply Kd.R_drew)); exact HO_255001.out⟩, ⟨by (with_reducible repeat (first | refine blk_drewN ?_ _ | refine blk_drew ?_ | refine blk_alloc ?_ _)); exact BK254.out⟩, ⟨by repeat (first | (with_reducible first | exact HB.out | apply below_alloc | apply pw_below_drewN | apply below_drew1 | refine below_set ?_ GE254.out) | exact HB.out)⟩⟩
                    · rw [if_neg c21] at H
                      have c21b0 : (x38_2 == a2) = false := beq_eq_false_iff_ne.mpr c21
                      have c21b1 : (x38_2 != a2) = true := bne_iff_ne.mpr c21
                      replace H := Option.bind_eq_some_iff.mp H
                      obtain ⟨⟨t257, t258, t261, t262, t263⟩, A220, H⟩ := H
                      replace H : (if t262 = true then (some false) else (counterfoillaw14_SegLacks.l0 k2 a2 t249 (t249.length : Int) (wrap64 (x38_2 + 1)) t257 t258)) = some r := H
                      have A22 := Aside0.mk A220
                      clear A220
                      by_cases c23 : t262 = true
                      · subst c23
                        have H1 : (some false) = some r := by rw [if_pos rfl] at H; exact H
                        clear H
                        have H := H1
                        clear H1
                        obtain rfl := Option.some.inj H
                        have p256 : 0 ≤ (x38_2 : Int) := of_decide_eq_true (by first | (with_reducible assumption) | assumption)
                        have q256 : x38_2 < (t249.length : Int) := of_decide_eq_true (by first | (with_reducible assumption) | assumption)
                        obtain ⟨ad256, e256, hx256_0⟩ := Kd.at_string (Kd.R_reads' HO_36.out).2.2 x38_2 p256 q256
                        cases e256
                        replace p256 := eq_true p256
                        replace q256 := eq_true q256
                        have hcz24_0 : wr.cell? ⟨gb254, 0, none⟩ = some (.int .i64 x255000_2) := (blk_cell BK254.out 0).trans rfl
                        have hcz24_1 : wr.cell? ⟨gb254, 1, none⟩ = some (u255001) := (blk_cell BK254.out 1).trans rfl
                        have hfz24_0 := blk_frozen BK254.out 0
                        have hfz24_1 := blk_frozen BK254.out 1
                        obtain ⟨Ao25, co25, eo25⟩ := Kd.R_slice HO_255001.out
                        subst eo25
                        go_wp2_with (first | ((with_reducible refine gate_callee (f := 14) rfl ?_); refine goesL_ (some 49) rfl rfl Try.func14 (by kernel_rfl) rfl #[.agg #[.int .i64 x255000_2, .slice Ao25 x255001_2.length co25], .string (rdOf ByteArray.empty t249 x38_2)] rfl (by (try simp only [List.map_toArray, List.map_cons, List.map_nil]); first | done | rfl | (simp only [List.length_drop, List.length_take]; rfl)) ?_; (with_reducible refine (seg_Feed.calls k2 x255000_2 _ _ x255001_2 (rdOf ByteArray.empty t249 x38_2) t257 t258 t261 true t263 _ ?side1 ?side2 A22.out).mono ?_); (case side1 => repeat (first | exact (Kd.R_reads' HO_255001.out).2.2 | (with_reducible refine Kd.C_alloc ?_ _) | (with_reducible refine Kd.C_drewN ?_ _) | (with_reducible refine Kd.C_drew ?_))); (case side2 => exact (Kd.R_reads' HO_255001.out).2.1); rintro e w26 ⟨v259, rfl, ho0, hb⟩; refine ⟨_, rfl, ?_⟩; have n0_ := Aside0.mk (Kd.R_elder' (by (with_reducible repeat (first | apply Kd.R_alloc | apply Kd.R_drewN | apply Kd.R_drew)); exact HO_36.out) (Kd.R_base ho0) hb); have n1_ := Aside0.mk (Kd.R_elder' (by (with_reducible repeat (first | apply Kd.R_alloc | apply Kd.R_drewN | apply Kd.R_drew)); exact HO_255001.out) (Kd.R_base ho0) hb); have n2_ := Aside0.mk (Kd.R_lower (Kd.R_new' (Kd.R_new' ho0 (Kd.R_lt (by (with_reducible repeat (first | apply Kd.R_alloc | apply Kd.R_drewN | apply Kd.R_drew)); exact HO_36.out))) (Kd.R_lt (by (with_reducible repeat (first | apply Kd.R_alloc | apply Kd.R_drewN | apply Kd.R_drew)); exact HO_255001.out))) (below_size (by repeat (first | (with_reducible first | exact HB.out | apply below_alloc | apply pw_below_drewN | apply below_drew1 | refine below_set ?_ GE254.out) | exact HB.out)))); have n3_ := Aside0.mk (blk_below (g := gb254) (o := .cells #[.int .i64 x255000_2, .slice Ao25 x255001_2.length co25] 35 (0, 0)) (by (with_reducible repeat (first | refine blk_drewN ?_ _ | refine blk_drew ?_ | refine blk_alloc ?_ _)); exact BK254.out) hb); have n4_ := Aside0.mk (below_step (by repeat (first | (with_reducible first | exact HB.out | apply below_alloc | apply pw_below_drewN | apply below_drew1 | refine below_set ?_ GE254.out) | exact HB.out)) hb); clear HO_36; clear HO_255001; clear BK254; clear HB; have HO_36 := n0_; have HO_255001 := n1_; have HO260 := n2_; have BK254 := n3_; have HB := n4_; clear n0_ n1_ n2_ n3_ n4_; (try clear hb); (try clear hb2); (try clear hk); (try clear hi); (try clear ho0); have hcz27_0 : w26.cell? ⟨gb254, 0, none⟩ = some (.int .i64 x255000_2) := (blk_cell BK254.out 0).trans rfl; have hcz27_1 : w26.cell? ⟨gb254, 1, none⟩ = some (.slice Ao25 x255001_2.length co25) := (blk_cell BK254.out 1).trans rfl; have hfz27_0 := blk_frozen BK254.out 0; have hfz27_1 := blk_frozen BK254.out 1; obtain ⟨Ao28, co28, eo28⟩ := Kd.R_slice HO260.out; subst eo28))
                        go_ret
                        exact ⟨by first | rfl | (simp [errW_none, errW_some] <;> rfl) | (simp [*, errW_none, errW_some] <;> rfl), by repeat (first | (with_reducible first | exact HB.out | apply below_alloc | apply pw_below_drewN | apply below_drew1 | refine below_set ?_ GE254.out) | exact HB.out)⟩
                      · replace c23 := Bool.eq_false_iff.mpr c23
                        subst c23
                        have H1 : (counterfoillaw14_SegLacks.l0 k2 a2 t249 (t249.length : Int) (wrap64 (x38_2 + 1)) t257 t258) = some r := by rw [if_neg (show ¬ (false = true) by decide)] at H; exact H
                        clear H
                        have H := H1
                        clear H1
                        have H' := Aside0.mk H
                        clear H
                        have p256 : 0 ≤ (x38_2 : Int) := of_decide_eq_true (by first | (with_reducible assumption) | assumption)
                        have q256 : x38_2 < (t249.length : Int) := of_decide_eq_true (by first | (with_reducible assumption) | assumption)
                        obtain ⟨ad256, e256, hx256_0⟩ := Kd.at_string (Kd.R_reads' HO_36.out).2.2 x38_2 p256 q256
                        cases e256
                        replace p256 := eq_true p256
                        replace q256 := eq_true q256
                        have hcz29_0 : wr.cell? ⟨gb254, 0, none⟩ = some (.int .i64 x255000_2) := (blk_cell BK254.out 0).trans rfl
                        have hcz29_1 : wr.cell? ⟨gb254, 1, none⟩ = some (u255001) := (blk_cell BK254.out 1).trans rfl
                        have hfz29_0 := blk_frozen BK254.out 0
                        have hfz29_1 := blk_frozen BK254.out 1
                        obtain ⟨Ao30, co30, eo30⟩ := Kd.R_slice HO_255001.out
                        subst eo30
                        go_wp2_with (first | ((with_reducible refine gate_callee (f := 14) rfl ?_); refine goesL_ (some 49) rfl rfl Try.func14 (by kernel_rfl) rfl #[.agg #[.int .i64 x255000_2, .slice Ao30 x255001_2.length co30], .string (rdOf ByteArray.empty t249 x38_2)] rfl (by (try simp only [List.map_toArray, List.map_cons, List.map_nil]); first | done | rfl | (simp only [List.length_drop, List.length_take]; rfl)) ?_; (with_reducible refine (seg_Feed.calls k2 x255000_2 _ _ x255001_2 (rdOf ByteArray.empty t249 x38_2) t257 t258 t261 false t263 _ ?side1 ?side2 A22.out).mono ?_); (case side1 => repeat (first | exact (Kd.R_reads' HO_255001.out).2.2 | (with_reducible refine Kd.C_alloc ?_ _) | (with_reducible refine Kd.C_drewN ?_ _) | (with_reducible refine Kd.C_drew ?_))); (case side2 => exact (Kd.R_reads' HO_255001.out).2.1); rintro e w31 ⟨v259, rfl, ho0, hb⟩; refine ⟨_, rfl, ?_⟩; have n0_ := Aside0.mk (Kd.R_elder' (by (with_reducible repeat (first | apply Kd.R_alloc | apply Kd.R_drewN | apply Kd.R_drew)); exact HO_36.out) (Kd.R_base ho0) hb); have n1_ := Aside0.mk (Kd.R_elder' (by (with_reducible repeat (first | apply Kd.R_alloc | apply Kd.R_drewN | apply Kd.R_drew)); exact HO_255001.out) (Kd.R_base ho0) hb); have n2_ := Aside0.mk (Kd.R_lower (Kd.R_new' (Kd.R_new' ho0 (Kd.R_lt (by (with_reducible repeat (first | apply Kd.R_alloc | apply Kd.R_drewN | apply Kd.R_drew)); exact HO_36.out))) (Kd.R_lt (by (with_reducible repeat (first | apply Kd.R_alloc | apply Kd.R_drewN | apply Kd.R_drew)); exact HO_255001.out))) (below_size (by repeat (first | (with_reducible first | exact HB.out | apply below_alloc | apply pw_below_drewN | apply below_drew1 | refine below_set ?_ GE254.out) | exact HB.out)))); have n3_ := Aside0.mk (blk_below (g := gb254) (o := .cells #[.int .i64 x255000_2, .slice Ao30 x255001_2.length co30] 35 (0, 0)) (by (with_reducible repeat (first | refine blk_drewN ?_ _ | refine blk_drew ?_ | refine blk_alloc ?_ _)); exact BK254.out) hb); have n4_ := Aside0.mk (below_step (by repeat (first | (with_reducible first | exact HB.out | apply below_alloc | apply pw_below_drewN | apply below_drew1 | refine below_set ?_ GE254.out) | exact HB.out)) hb); clear HO_36; clear HO_255001; clear BK254; clear HB; have HO_36 := n0_; have HO_255001 := n1_; have HO260 := n2_; have BK254 := n3_; have HB := n4_; clear n0_ n1_ n2_ n3_ n4_; (try clear hb); (try clear hb2); (try clear hk); (try clear hi); (try clear ho0); have hcz32_0 : w31.cell? ⟨gb254, 0, none⟩ = some (.int .i64 x255000_2) := (blk_cell BK254.out 0).trans rfl; have hcz32_1 : w31.cell? ⟨gb254, 1, none⟩ = some (.slice Ao30 x255001_2.length co30) := (blk_cell BK254.out 1).trans rfl; have hfz32_0 := blk_frozen BK254.out 0; have hfz32_1 := blk_frozen BK254.out 1; obtain ⟨Ao33, co33, eo33⟩ := Kd.R_slice HO260.out; subst eo33))
                        go_roundg k2
                        case measure => have := HJ7.out; have := HK2.out; omega
                        case rel => exact ⟨(wrap64 (x38_2 + 1)), (t257), (t258), (.slice Ao33 t258.length co33), (by first | rfl | (simp; done) | (simp [*]; done)), H', ⟨by have := HJ7.out; have := HK2.out; omega⟩, ⟨by (with_reducible repeat (first | apply Kd.R_alloc | apply Kd.R_drewN | apply Kd.R_drew)); exact Kd.R_mono (Kd.R_far (p := ⟨gb254, 1, none⟩) (Kd.R_far (p := ⟨gb254, 0, none⟩) (Kd.R_types HO_36.out BK254.out (by decide)) (fun _ hk => hk.2) (.int .i64 t257)) (fun _ hk => hk.2) (.slice Ao33 t258.length co33)) (fun _ hk => hk.1.2)⟩, ⟨by (with_reducible repeat (first | apply Kd.R_alloc | apply Kd.R_drewN | apply Kd.R_drew)); exact Kd.R_mono (Kd.R_far (p := ⟨gb254, 1, none⟩) (Kd.R_far (p := ⟨gb254, 0, none⟩) (Kd.R_types HO260.out BK254.out (by decide)) (fun _ hk => hk.2) (.int .i64 t257)) (fun _ hk => hk.2) (.slice Ao33 t258.length co33)) (fun _ hk => hk.1.1.2)⟩, ⟨by (with_reducible repeat (first | refine blk_drewN ?_ _ | refine blk_drew ?_ | refine blk_alloc ?_ _)); refine blk_put (cs := #[.int .i64 t257, .slice Ao30 x255001_2.length co30]) ?_ 1 _ rfl; (with_reducible repeat (first | refine blk_drewN ?_ _ | refine blk_drew ?_ | refine blk_alloc ?_ _)); refine blk_put (cs := #[.int .i64 x255000_2, .slice Ao30 x255001_2.length co30]) ?_ 0 _ rfl; (with_reducible repeat (first | refine blk_drewN ?_ _ | refine blk_drew ?_ | refine blk_alloc ?_ _)); exact BK254.out⟩, ⟨by repeat (first | (with_reducible first | exact HB.out | apply below_alloc | apply pw_below_drewN | apply below_drew1 | refine below_set ?_ GE254.out) | exact HB.out)⟩⟩
                  · rw [if_neg c20] at H
                    exact absurd H (by simp)
                · rw [if_neg c19] at H
                  exact absurd H (by simp)
              · rw [if_neg c18] at H
                have c18b0 : decide (x38_2 < (t249.length : Int)) = false := decide_eq_false c18
                clear c18
                replace H := Option.bind_eq_some_iff.mp H
                obtain ⟨t255, A340, H⟩ := H
                replace H : (some t255) = some r := H
                have A34 := Aside0.mk A340
                clear A340
                obtain rfl := Option.some.inj H
                go_wp2_with (first | ((with_reducible refine gate_callee (f := 9) rfl ?_); refine goesL_ (some 56) rfl rfl Try.func9 (by kernel_rfl) rfl #[] rfl (by (try simp only [List.map_toArray, List.map_cons, List.map_nil]); first | done | rfl | (simp only [List.length_drop, List.length_take]; rfl)) ?_; (with_reducible refine (counterfoillaw14_awake.calls k2  t255 _ A34.out).mono ?_); rintro e w35 ⟨rfl, hb⟩; refine ⟨_, rfl, ?_⟩; have n0_ := Aside0.mk (Kd.R_below (by (with_reducible repeat (first | apply Kd.R_alloc | apply Kd.R_drewN | apply Kd.R_drew)); exact HO_36.out) hb); have n1_ := Aside0.mk (Kd.R_below (by (with_reducible repeat (first | apply Kd.R_alloc | apply Kd.R_drewN | apply Kd.R_drew)); exact HO_255001.out) hb); have n2_ := Aside0.mk (blk_below (g := gb254) (o := .cells #[.int .i64 x255000_2, u255001] 35 (0, 0)) (by (with_reducible repeat (first | refine blk_drewN ?_ _ | refine blk_drew ?_ | refine blk_alloc ?_ _)); exact BK254.out) hb); have n3_ := Aside0.mk (below_step (by repeat (first | (with_reducible first | exact HB.out | apply below_alloc | apply pw_below_drewN | apply below_drew1 | refine below_set ?_ GE254.out) | exact HB.out)) hb); clear HO_36; clear HO_255001; clear BK254; clear HB; have HO_36 := n0_; have HO_255001 := n1_; have BK254 := n2_; have HB := n3_; clear n0_ n1_ n2_ n3_; (try clear hb); (try clear hb2); (try clear hk); (try clear hi)))
                go_ret
                exact ⟨by first | rfl | (simp [errW_none, errW_some] <;> rfl) | (simp [*, errW_none, errW_some] <;> rfl), by repeat (first | (with_reducible first | exact HB.out | apply below_alloc | apply pw_below_drewN | apply below_drew1 | refine below_set ?_ GE254.out) | exact HB.out)⟩

/-- THE ONE PURE STATEMENT of counterfoillaw14_SegLacks: yours. -/
def counterfoillaw14_SegLacks.Pure : Prop := ∀ (a0 : ByteArray) (a1 : Int) (a2 : Int), a0.size ≤ 140737488351232 → (Lit.int .i64 a1).wf = true → (Lit.int .i64 a2).wf = true → ∃ k, counterfoillaw14_SegLacks.f k a0 a1 a2 = some true
theorem counterfoillaw14_SegLacks.walk (P : counterfoillaw14_SegLacks.Pure) (a0 : ByteArray) (a1 : Int) (a2 : Int) (w : World) (w0 : a0.size ≤ 140737488351232) (w1 : (Lit.int .i64 a1).wf = true) (w2 : (Lit.int .i64 a2).wf = true) :
    Calls Try.prog 8 #[.string a0, .int .i64 a1, .int .i64 a2] w fun e w' => e = .returned (.bool true) ∧ Below w.heap.size w w' := by
  obtain ⟨k, h⟩ := P a0 a1 a2 w0 w1 w2
  refine (counterfoillaw14_SegLacks.calls k a0 a1 a2 true w h).mono ?_
  rintro e w' ⟨rfl, hd⟩
  exact ⟨rfl, hd⟩

end Go.Proofs.Ytafhlaehkaledaa.P
