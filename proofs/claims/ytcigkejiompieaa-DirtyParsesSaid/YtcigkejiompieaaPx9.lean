-- Printed by this session's own program wip/mprint.py
import Derived.Test.YtcigkejiompieaaPx0
import Derived.Test.YtcigkejiompieaaPx2
import Derived.Test.YtcigkejiompieaaPx8
namespace Go.Proofs.Ytcigkejiompieaa.P
open Go.RowKit Go.Proofs.YtcigkejiompieaaW.PrintWords Go.Proofs.YtcigkejiompieaaW.PrintLast Go.Proofs.YtcigkejiompieaaW.PrintMore
attribute [local go_sem] max2_int min2_int max_two min_two max_three min_three max_four min_four   -- for this text's walks alone
set_option linter.unusedVariables false
set_option linter.unusedSimpArgs false

/-! ### dirty_Parse: function 20 -/
mutual
def dirty_Parse.j0 : Nat → Int → ByteArray → Bool → Option ((List (S63)) × ByteArray × Int)
  | 0, _, _, _ => none
  | k + 1, x5, x6, x25 => if x25 = true then (some (([] : List (S63)), (⟨#[]⟩ : ByteArray), 2)) else (dirty_Parse.l0 k x6 ([] : List (S63)) x5 0)
def dirty_Parse.l0 : Nat → ByteArray → List (S63) → Int → Int → Option ((List (S63)) × ByteArray × Int)
  | 0, _, _, _, _ => none
  | k + 1, x6, x8, x26, x27 => if x27 < x26 then (if 1 ≤ 5 then (if 5 ≤ (x6.size : Int) then ((octet_Get.f k (x6.extract 1 5)).bind fun bt228 => (if 0 < (x6.size : Int) then (if x8.length < 8796093022208 then (dirty_Parse.l0 k (x6.extract 5 x6.size) (x8 ++ [(⟨wrap64 (bt x6 0), IntKind.u64.wrap (bt228.1)⟩ : S63)]) x26 (wrap64 (x27 + 1))) else (none)) else (none))) else (none)) else (none)) else ((dirty_Right.f k x8).bind fun t233 => (if t233 = true then (some (x8, x6, 0)) else (some (([] : List (S63)), (⟨#[]⟩ : ByteArray), 3))))
end
def dirty_Parse.f (k : Nat) (a0 : ByteArray) : Option ((List (S63)) × ByteArray × Int) := (octet_Number.f k a0 1).bind fun bt225 => (if bt225.2.2 = 0 then (dirty_Parse.j0 k bt225.1 bt225.2.1 (decide ((bt225.2.1.size : Int) < (wrap64 (5 * bt225.1))))) else (dirty_Parse.j0 k bt225.1 bt225.2.1 true))
theorem dirty_Parse.mono_l : ∀ k, (∀ y0 y1 y2, LeO (dirty_Parse.j0 k y0 y1 y2) (dirty_Parse.j0 (k + 1) y0 y1 y2)) ∧ (∀ y0 y1 y2 y3, LeO (dirty_Parse.l0 k y0 y1 y2 y3) (dirty_Parse.l0 (k + 1) y0 y1 y2 y3))
  | 0 => ⟨fun _ _ _ r h => by simp [dirty_Parse.j0] at h, fun _ _ _ _ r h => by simp [dirty_Parse.l0] at h⟩
  | k + 1 => by
    obtain ⟨ih0, ih1⟩ := dirty_Parse.mono_l k
    refine ⟨?_, ?_⟩
    · intro y0 y1 y2
      unfold dirty_Parse.j0
      repeat' first
      | (with_reducible exact ih0 _ _ _)
      | (with_reducible exact ih1 _ _ _ _)
      | (with_reducible exact dirty_Right.mono _ _)
      | (with_reducible exact octet_Get.mono _ _)
      | (with_reducible exact octet_Number.mono _ _ _)
      | (with_reducible exact LeO.refl _)
      | (with_reducible exact LeO.none _)
      | (with_reducible refine LeO.ite ?_ ?_)
      | (with_reducible refine LeO.bind ?_ (fun _ => ?_))
      | exact ih0 _ _ _
      | exact ih1 _ _ _ _
      | exact dirty_Right.mono _ _
      | exact octet_Get.mono _ _
      | exact octet_Number.mono _ _ _
      | exact LeO.none _
      | refine LeO.ite ?_ ?_
      | refine LeO.bind ?_ (fun _ => ?_)
    · intro y0 y1 y2 y3
      unfold dirty_Parse.l0
      repeat' first
      | (with_reducible exact ih0 _ _ _)
      | (with_reducible exact ih1 _ _ _ _)
      | (with_reducible exact dirty_Right.mono _ _)
      | (with_reducible exact octet_Get.mono _ _)
      | (with_reducible exact octet_Number.mono _ _ _)
      | (with_reducible exact LeO.refl _)
      | (with_reducible exact LeO.none _)
      | (with_reducible refine LeO.ite ?_ ?_)
      | (with_reducible refine LeO.bind ?_ (fun _ => ?_))
      | exact ih0 _ _ _
      | exact ih1 _ _ _ _
      | exact dirty_Right.mono _ _
      | exact octet_Get.mono _ _
      | exact octet_Number.mono _ _ _
      | exact LeO.none _
      | refine LeO.ite ?_ ?_
      | refine LeO.bind ?_ (fun _ => ?_)
theorem dirty_Parse.mono : ∀ a0 k, LeO (dirty_Parse.f k a0) (dirty_Parse.f (k + 1) a0) := by
  intro a0 k
  obtain ⟨ih0, ih1⟩ := dirty_Parse.mono_l k
  unfold dirty_Parse.f
  repeat' first
      | (with_reducible exact ih0 _ _ _)
      | (with_reducible exact ih1 _ _ _ _)
      | (with_reducible exact dirty_Right.mono _ _)
      | (with_reducible exact octet_Get.mono _ _)
      | (with_reducible exact octet_Number.mono _ _ _)
      | (with_reducible exact LeO.refl _)
      | (with_reducible exact LeO.none _)
      | (with_reducible refine LeO.ite ?_ ?_)
      | (with_reducible refine LeO.bind ?_ (fun _ => ?_))
      | exact ih0 _ _ _
      | exact ih1 _ _ _ _
      | exact dirty_Right.mono _ _
      | exact octet_Get.mono _ _
      | exact octet_Number.mono _ _ _
      | exact LeO.none _
      | refine LeO.ite ?_ ?_
      | refine LeO.bind ?_ (fun _ => ?_)
set_option maxHeartbeats 8000000 in
set_option maxRecDepth 100000 in
theorem dirty_Parse.calls (k : Nat) (a0 : ByteArray) (r1 : List (S63)) (r2 : ByteArray) (r3 : Int) (w : World) (h : dirty_Parse.f k a0 = some (r1, r2, r3)) :
    Calls Try.prog 20 #[.string a0] w fun e w' => ∃ v0_ : Value, e = .returned (.tuple #[v0_, .string r2, .int .i64 r3]) ∧ Kd.R k63 63 w' w.heap.size (fun _ => True) v0_ r1 ∧ Below w.heap.size w w' := by
  have hu63 := Try.underlying63
  have HB := Aside0.mk (Below.refl w.heap.size w)
  have H : ((octet_Number.f k a0 1).bind fun bt225 => (if bt225.2.2 = 0 then (dirty_Parse.j0 k bt225.1 bt225.2.1 (decide ((bt225.2.1.size : Int) < (wrap64 (5 * bt225.1))))) else (dirty_Parse.j0 k bt225.1 bt225.2.1 true))) = some (r1, r2, r3) := h
  clear h
  replace H := Option.bind_eq_some_iff.mp H
  obtain ⟨⟨t225, t226, t227⟩, A20, H⟩ := H
  replace H : (if t227 = 0 then (dirty_Parse.j0 k t225 t226 (decide ((t226.size : Int) < (wrap64 (5 * t225))))) else (dirty_Parse.j0 k t225 t226 true)) = some (r1, r2, r3) := H
  have A2 := Aside0.mk A20
  clear A20
  have HC3 := Aside0.mk H
  clear H
  go_enter Try.func20, Try.ntmps20
  go_upto_region 2 with (first | ((with_reducible refine gate_callee (f := 37) rfl ?_); refine goesL_ (some 13) rfl rfl Try.func37 (by kernel_rfl) rfl #[.string a0, .int .i64 1] rfl (by (try simp only [List.map_toArray, List.map_cons, List.map_nil]); first | done | rfl | (simp only [List.length_drop, List.length_take]; rfl)) ?_; (with_reducible refine (octet_Number.calls k a0 1 t225 t226 t227 _ A2.out).mono ?_); rintro e w' ⟨rfl, ⟨nd, rfl⟩⟩; refine ⟨_, rfl, ?_⟩))
  (try simp only [Act.put, List.setIfInBounds_toArray, List.set_cons_zero, List.set_cons_succ])
  go_cut [25] (fun v25 wc => ∃ (kq : Nat) (x25_2 : Bool), v25 = .bool x25_2 ∧ Aside0 (dirty_Parse.j0 kq t225 t226 x25_2 = some (r1, r2, r3)) ∧ Aside0 (kq ≤ k) ∧ Aside0 (Below w.heap.size w wc))
  case first =>
    have H := HC3.out
    clear HC3
    by_cases c4 : t227 = 0
    · rw [if_pos c4] at H
      have c4b0 : (t227 == 0) = true := beq_iff_eq.mpr c4
      have c4b1 : (t227 != 0) = false := bne_eq_false_iff_eq.mpr c4
      clear c4
      (first | rw [c4b0] | (simp only [i64_w, i32_w]; rw [c4b0]) | skip)
      have H' := Aside0.mk H
      clear H
      go_wp2
      go_meet
      case rel => exact ⟨_, (decide ((t226.size : Int) < (wrap64 (5 * t225)))), (by first | rfl | (simp; done) | (simp [*]; done)), H', ⟨by first | omega | exact Nat.le_refl _⟩, ⟨by repeat (first | (with_reducible first | exact HB.out | apply below_alloc | apply pw_below_drewN | apply below_drew1) | exact HB.out)⟩⟩
    · rw [if_neg c4] at H
      have c4b0 : (t227 == 0) = false := beq_eq_false_iff_ne.mpr c4
      have c4b1 : (t227 != 0) = true := bne_iff_ne.mpr c4
      (first | rw [c4b0] | (simp only [i64_w, i32_w]; rw [c4b0]) | skip)
      have H' := Aside0.mk H
      clear H
      go_wp2
      go_meet
      case rel => exact ⟨_, (true), (by first | rfl | (simp; done) | (simp [*]; done)), H', ⟨by first | omega | exact Nat.le_refl _⟩, ⟨by repeat (first | (with_reducible first | exact HB.out | apply below_alloc | apply pw_below_drewN | apply below_drew1) | exact HB.out)⟩⟩
  case rest =>
    clear HC3
    try clear c2
    try clear p2
    try clear c3
    try clear c4
    try clear c4b0
    try clear c4b1
    obtain ⟨kq, x25_2, rfl, HA, HJ2, HB⟩ := hcut
    cases kq with
    | zero => exact absurd HA.out (by simp [dirty_Parse.j0])
    | succ kj2 =>
      have H := HA.out
      clear HA
      simp only [dirty_Parse.j0] at H
      by_cases c5 : x25_2 = true
      · subst c5
        have H1 : (some (([] : List (S63)), (⟨#[]⟩ : ByteArray), 2)) = some (r1, r2, r3) := by rw [if_pos rfl] at H; exact H
        clear H
        have H := H1
        clear H1
        simp only [Option.some.injEq, Prod.mk.injEq] at H
        obtain ⟨rfl, rfl, rfl⟩ := H
        go_wp2
        go_ret3
        exact ⟨_, by first | rfl | (simp [errW_none, errW_some] <;> rfl) | (simp [*, errW_none, errW_some] <;> rfl), by first | exact Kd.R_nil _ _ _ _ _ | exact Kd.N_nil _ _ _ _ _ | exact Kd.V_nil _ _ _ _ _ | exact Kd.Q_nil _ _ _ _ _ | exact Kd.S_nil _ _ _ _ _, by repeat (first | (with_reducible first | exact HB.out | apply below_alloc | apply pw_below_drewN | apply below_drew1) | exact HB.out)⟩
      · replace c5 := Bool.eq_false_iff.mpr c5
        subst c5
        have H1 : (dirty_Parse.l0 kj2 t226 ([] : List (S63)) t225 0) = some (r1, r2, r3) := by rw [if_neg (show ¬ (false = true) by decide)] at H; exact H
        clear H
        have H := H1
        clear H1
        have H' := Aside0.mk H
        clear H
        go_wp2
        go_loopg [6, 8, 27] kj2 (fun kq v6 v8 v27 w' => ∃ (x6_2 : ByteArray) (x8_2 : List (S63)) (x27_2 : Int), v6 = .string x6_2 ∧ v27 = .int .i64 x27_2 ∧ Aside0 (dirty_Parse.l0 kq x6_2 x8_2 t225 x27_2 = some (r1, r2, r3)) ∧ Aside0 (kq ≤ kj2) ∧ Aside0 (Kd.R k63 63 w' w.heap.size (fun _ => True) v8 x8_2) ∧ Aside0 (Below w.heap.size w w'))
        case atStart => exact ⟨(t226), (([] : List (S63))), (0), (by first | rfl | (simp; done) | (simp [*]; done)), (by first | rfl | (simp; done) | (simp [*]; done)), H', ⟨Nat.le_refl _⟩, ⟨by first | exact Kd.R_nil _ _ _ _ _ | exact Kd.N_nil _ _ _ _ _ | exact Kd.V_nil _ _ _ _ _ | exact Kd.Q_nil _ _ _ _ _ | exact Kd.S_nil _ _ _ _ _⟩, ⟨by repeat (first | (with_reducible first | exact HB.out | apply below_alloc | apply pw_below_drewN | apply below_drew1) | exact HB.out)⟩⟩
        case round =>
          clear H'
          try clear c2
          try clear p2
          try clear c3
          try clear c4
          try clear c4b0
          try clear c4b1
          try clear c5
          try clear p2
          obtain ⟨x6_2, x8_2, x27_2, rfl, rfl, HA, HK2, HO_8, HB⟩ := hrel
          cases gk with
          | zero => exact absurd HA.out (by simp [dirty_Parse.l0])
          | succ k2 =>
            have H := HA.out
            clear HA
            simp only [dirty_Parse.l0] at H
            by_cases c6 : x27_2 < t225
            · rw [if_pos c6] at H
              have c6b0 : decide (x27_2 < t225) = true := decide_eq_true c6
              clear c6
              by_cases c7 : 1 ≤ 5
              · rw [if_pos c7] at H
                have c7b0 := eq_true c7
                have c7b1 : decide (1 ≤ 5) = true := decide_eq_true c7
                clear c7
                by_cases c8 : 5 ≤ (x6_2.size : Int)
                · rw [if_pos c8] at H
                  have c8b0 := eq_true c8
                  have c8b1 : decide (5 ≤ (x6_2.size : Int)) = true := decide_eq_true c8
                  clear c8
                  replace H := Option.bind_eq_some_iff.mp H
                  obtain ⟨⟨t228, t229⟩, A90, H⟩ := H
                  replace H : (if 0 < (x6_2.size : Int) then (if x8_2.length < 8796093022208 then (dirty_Parse.l0 k2 (x6_2.extract 5 x6_2.size) (x8_2 ++ [(⟨wrap64 (bt x6_2 0), IntKind.u64.wrap (t228)⟩ : S63)]) t225 (wrap64 (x27_2 + 1))) else (none)) else (none)) = some (r1, r2, r3) := H
                  have A9 := Aside0.mk A90
                  clear A90
                  by_cases c10 : 0 < (x6_2.size : Int)
                  · rw [if_pos c10] at H
                    have c10b0 : decide (0 < (x6_2.size : Int)) = true := decide_eq_true c10
                    have c10b1 : decide (0 < x6_2.size) = true := decide_eq_true (by omega)
                    clear c10
                    by_cases c12 : x8_2.length < 8796093022208
                    · rw [if_pos c12] at H
                      have LMc12 := Aside0.mk c12
                      clear c12
                      obtain ⟨y230, hy230⟩ : ∃ y_ : List (S63), y_ = (x8_2 ++ [(⟨wrap64 (bt x6_2 0), IntKind.u64.wrap (t228)⟩ : S63)]) := ⟨_, rfl⟩
                      replace H : (dirty_Parse.l0 k2 (x6_2.extract 5 x6_2.size) y230 t225 (wrap64 (x27_2 + 1))) = some (r1, r2, r3) := by first | (rw [hy230]; with_reducible exact H) | (have H2_ := (Option.bind_some _ _).symm.trans H; rw [hy230]; with_reducible exact H2_) | (have H2_ := (Option.bind_some _ _).symm.trans H; with_reducible exact H2_) | with_reducible exact H | (rw [hy230]; exact H) | exact H
                      have Ny230 := Aside0.mk hy230
                      clear hy230
                      have c13b0 := eq_true (of_decide_eq_true (by first | (with_reducible assumption) | assumption) : 5 ≤ (x6_2.size : Int))
                      have H' := Aside0.mk H
                      clear H
                      go_wp2_with (first | ((with_reducible refine gate_callee (f := 38) rfl ?_); refine goesL_ (some 32) rfl rfl Try.func38 (by kernel_rfl) rfl #[.string (x6_2.extract 1 5)] rfl (by (try simp only [List.map_toArray, List.map_cons, List.map_nil]); first | done | rfl | (simp only [List.length_drop, List.length_take]; rfl)) ?_; (with_reducible refine (octet_Get.calls k2 (x6_2.extract 1 5) t228 t229 _ A9.out).mono ?_); rintro e w' ⟨rfl, ⟨nd, rfl⟩⟩; refine ⟨_, rfl, ?_⟩; have p11 : 0 ≤ (0 : Int) := (by omega); have q11 : 0 < x6_2.size := (by have : (0 : Int) < (x6_2.size : Int) := of_decide_eq_true (by first | (with_reducible assumption) | assumption); omega); have hx11 : ∀ h : 0 < x6_2.size, ((x6_2[0]'h).toNat : Int) = bt x6_2 0 := bt_at x6_2 0; clear p11; have qi11 : (0 < (x6_2.size : Int)) = True := eq_true (of_decide_eq_true (by first | (with_reducible assumption) | assumption)); replace q11 := eq_true q11) | ((with_reducible refine gate_builtin (b := .append) (xs := #[.tmp 35, .tmp 42]) rfl ?_); (try (refine gate_guard (by rfl) ?_; dsimp only)); at_builtin; refine Kd.R_append k63 (w0 := w) w.heap.size rfl (.tmp 35) (.tmp 42) 22 63 (.agg #[(.int .i64 0), (.int .u64 0)]) 16 rfl Try.underlying22 info63 rfl (by decide) (by omega) u8 x8_2 (⟨wrap64 (bt x6_2 0), IntKind.u64.wrap (t228)⟩ : S63) [.int .i64 (wrap64 (bt x6_2 0)), .int .u64 (IntKind.u64.wrap (t228))] (fun _ => True) (fun _ => False) rfl rfl ?aP (fun _ hk => hk.elim) ?aF ?aO ?aB ?aS ?aL ?_; (case aP => exact k63_mkM _ _ _ (⟨wrap64 (bt x6_2 0), IntKind.u64.wrap (t228)⟩ : S63)); (case aB => exact (by repeat (first | (with_reducible first | exact HB.out | apply below_alloc | apply pw_below_drewN | apply below_drew1) | exact HB.out))); (case aF => exact (fun _ _ => trivial)); (case aO => exact (by (with_reducible repeat (first | apply Kd.R_alloc | apply Kd.R_drewN | apply Kd.R_drew)); exact HO_8.out)); (case aS => exact (below_size (by repeat (first | (with_reducible first | exact HB.out | apply below_alloc | apply pw_below_drewN | apply below_drew1) | exact HB.out)))); (case aL => have := LMc12.out; omega); intro v231 w14 ho hb hg hat; rw [← Ny230.out] at ho; have n0_ := Aside0.mk (hb); have n1_ := Aside0.mk (ho); clear HB; clear HO_8; have HB := n0_; have HO232 := n1_; clear n0_ n1_; clear ho hb hg hat))
                      go_roundg k2
                      case measure => have := HJ2.out; have := HK2.out; omega
                      case rel => exact ⟨(x6_2.extract 5 x6_2.size), (y230), (wrap64 (x27_2 + 1)), (by first | rfl | (simp; done) | (simp [*]; done)), (by first | rfl | (simp; done) | (simp [*]; done)), H', ⟨by have := HJ2.out; have := HK2.out; omega⟩, ⟨by (with_reducible repeat (first | apply Kd.R_alloc | apply Kd.R_drewN | apply Kd.R_drew)); exact HO232.out⟩, ⟨by repeat (first | (with_reducible first | exact HB.out | apply below_alloc | apply pw_below_drewN | apply below_drew1) | exact HB.out)⟩⟩
                    · rw [if_neg c12] at H
                      exact absurd H (by simp)
                  · rw [if_neg c10] at H
                    exact absurd H (by simp)
                · rw [if_neg c8] at H
                  exact absurd H (by simp)
              · rw [if_neg c7] at H
                exact absurd H (by simp)
            · rw [if_neg c6] at H
              have c6b0 : decide (x27_2 < t225) = false := decide_eq_false c6
              clear c6
              replace H := Option.bind_eq_some_iff.mp H
              obtain ⟨t233, A150, H⟩ := H
              replace H : (if t233 = true then (some (x8_2, x6_2, 0)) else (some (([] : List (S63)), (⟨#[]⟩ : ByteArray), 3))) = some (r1, r2, r3) := H
              have A15 := Aside0.mk A150
              clear A150
              by_cases c16 : t233 = true
              · subst c16
                have H1 : (some (x8_2, x6_2, 0)) = some (r1, r2, r3) := by rw [if_pos rfl] at H; exact H
                clear H
                have H := H1
                clear H1
                simp only [Option.some.injEq, Prod.mk.injEq] at H
                obtain ⟨rfl, rfl, rfl⟩ := H
                obtain ⟨Ao17, co17, eo17⟩ := Kd.R_slice HO_8.out
                subst eo17
                go_wp2_with (first | ((with_reducible refine gate_callee (f := 14) rfl ?_); refine goesL_ (some 48) rfl rfl Try.func14 (by kernel_rfl) rfl #[.slice Ao17 x8_2.length co17] rfl (by (try simp only [List.map_toArray, List.map_cons, List.map_nil]); first | done | rfl | (simp only [List.length_drop, List.length_take]; rfl)) ?_; (with_reducible refine (dirty_Right.calls k2 _ _ x8_2 true _ ?side1 ?side2 A15.out).mono ?_); (case side1 => repeat (first | exact (Kd.R_reads' HO_8.out).2.2 | (with_reducible refine Kd.C_alloc ?_ _) | (with_reducible refine Kd.C_drewN ?_ _) | (with_reducible refine Kd.C_drew ?_))); (case side2 => exact (Kd.R_reads' HO_8.out).2.1); rintro e w18 ⟨rfl, hb⟩; refine ⟨_, rfl, ?_⟩; have n0_ := Aside0.mk (Kd.R_below (by (with_reducible repeat (first | apply Kd.R_alloc | apply Kd.R_drewN | apply Kd.R_drew)); exact HO_8.out) hb); have n1_ := Aside0.mk (below_step (by repeat (first | (with_reducible first | exact HB.out | apply below_alloc | apply pw_below_drewN | apply below_drew1) | exact HB.out)) hb); clear HO_8; clear HB; have HO_8 := n0_; have HB := n1_; clear n0_ n1_; (try clear hb); (try clear hb2); (try clear hk); (try clear hi)))
                go_ret3
                exact ⟨_, by first | rfl | (simp [errW_none, errW_some] <;> rfl) | (simp [*, errW_none, errW_some] <;> rfl), by (with_reducible repeat (first | apply Kd.R_alloc | apply Kd.R_drewN | apply Kd.R_drew)); exact HO_8.out, by repeat (first | (with_reducible first | exact HB.out | apply below_alloc | apply pw_below_drewN | apply below_drew1) | exact HB.out)⟩
              · replace c16 := Bool.eq_false_iff.mpr c16
                subst c16
                have H1 : (some (([] : List (S63)), (⟨#[]⟩ : ByteArray), 3)) = some (r1, r2, r3) := by rw [if_neg (show ¬ (false = true) by decide)] at H; exact H
                clear H
                have H := H1
                clear H1
                simp only [Option.some.injEq, Prod.mk.injEq] at H
                obtain ⟨rfl, rfl, rfl⟩ := H
                obtain ⟨Ao19, co19, eo19⟩ := Kd.R_slice HO_8.out
                subst eo19
                go_wp2_with (first | ((with_reducible refine gate_callee (f := 14) rfl ?_); refine goesL_ (some 48) rfl rfl Try.func14 (by kernel_rfl) rfl #[.slice Ao19 x8_2.length co19] rfl (by (try simp only [List.map_toArray, List.map_cons, List.map_nil]); first | done | rfl | (simp only [List.length_drop, List.length_take]; rfl)) ?_; (with_reducible refine (dirty_Right.calls k2 _ _ x8_2 false _ ?side1 ?side2 A15.out).mono ?_); (case side1 => repeat (first | exact (Kd.R_reads' HO_8.out).2.2 | (with_reducible refine Kd.C_alloc ?_ _) | (with_reducible refine Kd.C_drewN ?_ _) | (with_reducible refine Kd.C_drew ?_))); (case side2 => exact (Kd.R_reads' HO_8.out).2.1); rintro e w20 ⟨rfl, hb⟩; refine ⟨_, rfl, ?_⟩; have n0_ := Aside0.mk (Kd.R_below (by (with_reducible repeat (first | apply Kd.R_alloc | apply Kd.R_drewN | apply Kd.R_drew)); exact HO_8.out) hb); have n1_ := Aside0.mk (below_step (by repeat (first | (with_reducible first | exact HB.out | apply below_alloc | apply pw_below_drewN | apply below_drew1) | exact HB.out)) hb); clear HO_8; clear HB; have HO_8 := n0_; have HB := n1_; clear n0_ n1_; (try clear hb); (try clear hb2); (try clear hk); (try clear hi)))
                go_ret3
                exact ⟨_, by first | rfl | (simp [errW_none, errW_some] <;> rfl) | (simp [*, errW_none, errW_some] <;> rfl), by first | exact Kd.R_nil _ _ _ _ _ | exact Kd.N_nil _ _ _ _ _ | exact Kd.V_nil _ _ _ _ _ | exact Kd.Q_nil _ _ _ _ _ | exact Kd.S_nil _ _ _ _ _, by repeat (first | (with_reducible first | exact HB.out | apply below_alloc | apply pw_below_drewN | apply below_drew1) | exact HB.out)⟩

/-! ### octet_Put: function 41 -/
mutual
def octet_Put.j0 : Nat → Int → Int → Bool → Option (ByteArray × Int)
  | 0, _, _, _ => none
  | k + 1, x0, x1, x13 => if x13 = true then (some ((⟨#[]⟩ : ByteArray), 1)) else (if x0 < 0 then (octet_Put.j1 k x0 x1 true) else (if x1 < 8 then (if 0 ≤ (wrap64 (8 * x1)) then (octet_Put.j1 k x0 x1 ((shr .i64 x0 (wrap64 (8 * x1))) != 0)) else (none)) else (octet_Put.j1 k x0 x1 false)))
def octet_Put.j1 : Nat → Int → Int → Bool → Option (ByteArray × Int)
  | 0, _, _, _ => none
  | k + 1, x0, x1, x26 => if x26 = true then (some ((⟨#[]⟩ : ByteArray), 10)) else (if 0 ≤ x1 then (if (x1 : Int).toNat ≤ 281474976710656 then ((some (List.replicate (x1 : Int).toNat 0 : List Int)).bind fun y234 => (octet_Put.l0 k x0 x1 y234 (y234.length : Int) 0)) else (none)) else (none))
def octet_Put.l0 : Nat → Int → Int → List Int → Int → Int → Option (ByteArray × Int)
  | 0, _, _, _, _, _ => none
  | k + 1, x0, x1, x6, x30, x31 => if x31 < x30 then (if 0 ≤ (wrap64 (8 * (wrap64 ((wrap64 (x1 - 1)) - x31)))) then (if 0 ≤ x31 then (if x31 < (x6.length : Int) then (octet_Put.l0 k x0 x1 (x6.set (x31 : Int).toNat ((shr .i64 x0 (wrap64 (8 * (wrap64 ((wrap64 (x1 - 1)) - x31))))) % 256)) x30 (wrap64 (x31 + 1))) else (none)) else (none)) else (none)) else (some (strOfNums x6, 0))
end
def octet_Put.f (k : Nat) (a0 : Int) (a1 : Int) : Option (ByteArray × Int) := if a1 < 1 then (octet_Put.j0 k a0 a1 true) else (octet_Put.j0 k a0 a1 (decide (a1 > 8)))
theorem octet_Put.mono_l : ∀ k, (∀ y0 y1 y2, LeO (octet_Put.j0 k y0 y1 y2) (octet_Put.j0 (k + 1) y0 y1 y2)) ∧ (∀ y0 y1 y2, LeO (octet_Put.j1 k y0 y1 y2) (octet_Put.j1 (k + 1) y0 y1 y2)) ∧ (∀ y0 y1 y2 y3 y4, LeO (octet_Put.l0 k y0 y1 y2 y3 y4) (octet_Put.l0 (k + 1) y0 y1 y2 y3 y4))
  | 0 => ⟨fun _ _ _ r h => by simp [octet_Put.j0] at h, fun _ _ _ r h => by simp [octet_Put.j1] at h, fun _ _ _ _ _ r h => by simp [octet_Put.l0] at h⟩
  | k + 1 => by
    obtain ⟨ih0, ih1, ih2⟩ := octet_Put.mono_l k
    refine ⟨?_, ?_, ?_⟩
    · intro y0 y1 y2
      unfold octet_Put.j0
      repeat' first
      | (with_reducible exact ih0 _ _ _)
      | (with_reducible exact ih1 _ _ _)
      | (with_reducible exact ih2 _ _ _ _ _)
      | (with_reducible exact LeO.refl _)
      | (with_reducible exact LeO.none _)
      | (with_reducible refine LeO.ite ?_ ?_)
      | (with_reducible refine LeO.bind ?_ (fun _ => ?_))
      | exact ih0 _ _ _
      | exact ih1 _ _ _
      | exact ih2 _ _ _ _ _
      | exact LeO.none _
      | refine LeO.ite ?_ ?_
      | refine LeO.bind ?_ (fun _ => ?_)
    · intro y0 y1 y2
      unfold octet_Put.j1
      repeat' first
      | (with_reducible exact ih0 _ _ _)
      | (with_reducible exact ih1 _ _ _)
      | (with_reducible exact ih2 _ _ _ _ _)
      | (with_reducible exact LeO.refl _)
      | (with_reducible exact LeO.none _)
      | (with_reducible refine LeO.ite ?_ ?_)
      | (with_reducible refine LeO.bind ?_ (fun _ => ?_))
      | exact ih0 _ _ _
      | exact ih1 _ _ _
      | exact ih2 _ _ _ _ _
      | exact LeO.none _
      | refine LeO.ite ?_ ?_
      | refine LeO.bind ?_ (fun _ => ?_)
    · intro y0 y1 y2 y3 y4
      unfold octet_Put.l0
      repeat' first
      | (with_reducible exact ih0 _ _ _)
      | (with_reducible exact ih1 _ _ _)
      | (with_reducible exact ih2 _ _ _ _ _)
      | (with_reducible exact LeO.refl _)
      | (with_reducible exact LeO.none _)
      | (with_reducible refine LeO.ite ?_ ?_)
      | (with_reducible refine LeO.bind ?_ (fun _ => ?_))
      | exact ih0 _ _ _
      | exact ih1 _ _ _
      | exact ih2 _ _ _ _ _
      | exact LeO.none _
      | refine LeO.ite ?_ ?_
      | refine LeO.bind ?_ (fun _ => ?_)
theorem octet_Put.mono : ∀ a0 a1 k, LeO (octet_Put.f k a0 a1) (octet_Put.f (k + 1) a0 a1) := by
  intro a0 a1 k
  obtain ⟨ih0, ih1, ih2⟩ := octet_Put.mono_l k
  unfold octet_Put.f
  repeat' first
      | (with_reducible exact ih0 _ _ _)
      | (with_reducible exact ih1 _ _ _)
      | (with_reducible exact ih2 _ _ _ _ _)
      | (with_reducible exact LeO.refl _)
      | (with_reducible exact LeO.none _)
      | (with_reducible refine LeO.ite ?_ ?_)
      | (with_reducible refine LeO.bind ?_ (fun _ => ?_))
      | exact ih0 _ _ _
      | exact ih1 _ _ _
      | exact ih2 _ _ _ _ _
      | exact LeO.none _
      | refine LeO.ite ?_ ?_
      | refine LeO.bind ?_ (fun _ => ?_)
set_option maxHeartbeats 8000000 in
set_option maxRecDepth 100000 in
theorem octet_Put.calls (k : Nat) (a0 : Int) (a1 : Int) (r1 : ByteArray) (r2 : Int) (w : World) (h : octet_Put.f k a0 a1 = some (r1, r2)) :
    Calls Try.prog 41 #[.int .i64 a0, .int .i64 a1] w fun e w' => e = .returned (.tuple #[.string r1, .int .i64 r2]) ∧ Below w.heap.size w w' := by
  have HB := Aside0.mk (Below.refl w.heap.size w)
  have H : (if a1 < 1 then (octet_Put.j0 k a0 a1 true) else (octet_Put.j0 k a0 a1 (decide (a1 > 8)))) = some (r1, r2) := h
  clear h
  have HC3 := Aside0.mk H
  clear H
  go_enter Try.func41, Try.ntmps41
  go_upto_region 1 with (fail)
  go_cut [13] (fun v13 wc => ∃ (kq : Nat) (x13_2 : Bool), v13 = .bool x13_2 ∧ Aside0 (octet_Put.j0 kq a0 a1 x13_2 = some (r1, r2)) ∧ Aside0 (kq ≤ k) ∧ Aside0 (Below w.heap.size w wc))
  case first =>
    have H := HC3.out
    clear HC3
    by_cases c4 : a1 < 1
    · rw [if_pos c4] at H
      have c4b0 : decide (a1 < 1) = true := decide_eq_true c4
      clear c4
      (first | rw [c4b0] | (simp only [i64_w, i32_w]; rw [c4b0]) | skip)
      have H' := Aside0.mk H
      clear H
      go_wp2
      go_meet
      case rel => exact ⟨_, (true), (by first | rfl | (simp; done) | (simp [*]; done)), H', ⟨by first | omega | exact Nat.le_refl _⟩, ⟨by repeat (first | (with_reducible first | exact HB.out | apply below_alloc | apply pw_below_drewN | apply below_drew1) | exact HB.out)⟩⟩
    · rw [if_neg c4] at H
      have c4b0 : decide (a1 < 1) = false := decide_eq_false c4
      clear c4
      (first | rw [c4b0] | (simp only [i64_w, i32_w]; rw [c4b0]) | skip)
      have H' := Aside0.mk H
      clear H
      go_wp2
      go_meet
      case rel => exact ⟨_, (decide (a1 > 8)), (by first | rfl | (simp; done) | (simp [*]; done)), H', ⟨by first | omega | exact Nat.le_refl _⟩, ⟨by repeat (first | (with_reducible first | exact HB.out | apply below_alloc | apply pw_below_drewN | apply below_drew1) | exact HB.out)⟩⟩
  case rest =>
    clear HC3
    try clear p2
    try clear c4
    try clear c4b0
    obtain ⟨kq, x13_2, rfl, HA, HJ2, HB⟩ := hcut
    cases kq with
    | zero => exact absurd HA.out (by simp [octet_Put.j0])
    | succ kj2 =>
      have H := HA.out
      clear HA
      simp only [octet_Put.j0] at H
      by_cases c5 : x13_2 = true
      · subst c5
        have H1 : (some ((⟨#[]⟩ : ByteArray), 1)) = some (r1, r2) := by rw [if_pos rfl] at H; exact H
        clear H
        have H := H1
        clear H1
        simp only [Option.some.injEq, Prod.mk.injEq] at H
        obtain ⟨rfl, rfl⟩ := H
        go_wp2
        go_ret2
        exact ⟨by first | rfl | (simp [errW_none, errW_some] <;> rfl) | (simp [*, errW_none, errW_some] <;> rfl), by repeat (first | (with_reducible first | exact HB.out | apply below_alloc | apply pw_below_drewN | apply below_drew1) | exact HB.out)⟩
      · replace c5 := Bool.eq_false_iff.mpr c5
        subst c5
        have H1 : (if a0 < 0 then (octet_Put.j1 kj2 a0 a1 true) else (if a1 < 8 then (if 0 ≤ (wrap64 (8 * a1)) then (octet_Put.j1 kj2 a0 a1 ((shr .i64 a0 (wrap64 (8 * a1))) != 0)) else (none)) else (octet_Put.j1 kj2 a0 a1 false))) = some (r1, r2) := by rw [if_neg (show ¬ (false = true) by decide)] at H; exact H
        clear H
        have H := H1
        clear H1
        have HC6 := Aside0.mk H
        clear H
        go_upto_region 3 with (fail)
        go_cut [26] (fun v26 wc => ∃ (kq : Nat) (x26_5 : Bool), v26 = .bool x26_5 ∧ Aside0 (octet_Put.j1 kq a0 a1 x26_5 = some (r1, r2)) ∧ Aside0 (kq ≤ kj2) ∧ Aside0 (Below w.heap.size w wc))
        case first =>
          have H := HC6.out
          clear HC6
          by_cases c7 : a0 < 0
          · rw [if_pos c7] at H
            have c7b0 : decide (a0 < 0) = true := decide_eq_true c7
            clear c7
            (first | rw [c7b0] | (simp only [i64_w, i32_w]; rw [c7b0]) | skip)
            have H' := Aside0.mk H
            clear H
            go_wp2
            go_meet
            case rel => exact ⟨_, (true), (by first | rfl | (simp; done) | (simp [*]; done)), H', ⟨by have := HJ2.out; first | omega | exact Nat.le_refl _⟩, ⟨by repeat (first | (with_reducible first | exact HB.out | apply below_alloc | apply pw_below_drewN | apply below_drew1) | exact HB.out)⟩⟩
          · rw [if_neg c7] at H
            have c7b0 : decide (a0 < 0) = false := decide_eq_false c7
            clear c7
            (first | rw [c7b0] | (simp only [i64_w, i32_w]; rw [c7b0]) | skip)
            by_cases c8 : a1 < 8
            · rw [if_pos c8] at H
              have c8b0 : decide (a1 < 8) = true := decide_eq_true c8
              clear c8
              obtain ⟨ji9, hji9⟩ : ∃ j_ : Int, (wrap64 (8 * a1)) = j_ := ⟨_, rfl⟩
              replace H : (if 0 ≤ (ji9) then (octet_Put.j1 kj2 a0 a1 ((shr .i64 a0 (ji9)) != 0)) else (none)) = some (r1, r2) := by first | (rw [hji9] at H; exact H) | (simp only [hji9] at H ⊢; exact H)
              have hji9w : (IntKind.i64.wrap (8 * a1)) = ji9 := (i64_w _).trans hji9
              by_cases c10 : 0 ≤ (ji9)
              · rw [if_pos c10] at H
                have c10b0 := eq_true c10
                have c10b1 : decide (0 ≤ (ji9)) = true := decide_eq_true c10
                clear c10
                obtain ⟨ji11, hji11⟩ : ∃ j_ : Int, (shr .i64 a0 (ji9)) = j_ := ⟨_, rfl⟩
                replace H : (octet_Put.j1 kj2 a0 a1 ((ji11) != 0)) = some (r1, r2) := by first | (rw [hji11] at H; exact H) | (simp only [hji11] at H ⊢; exact H)
                have hji11_ : (a0 / 2 ^ min (ji9).toNat 64) = ji11 := hji11
                have hji11z : (ji9) ≤ 64 → (a0 / 2 ^ (ji9).toNat) = ji11 := shr_small hji11
                have H' := Aside0.mk H
                clear H
                go_wp2
                go_meet
                case rel => exact ⟨_, (((ji11) != 0)), (by first | rfl | (simp; done) | (simp only [← hji11] <;> (first | rfl | simp)) | (simp [*]; done)), H', ⟨by have := HJ2.out; first | omega | exact Nat.le_refl _⟩, ⟨by repeat (first | (with_reducible first | exact HB.out | apply below_alloc | apply pw_below_drewN | apply below_drew1) | exact HB.out)⟩⟩
              · rw [if_neg c10] at H
                exact absurd H (by simp)
            · rw [if_neg c8] at H
              have c8b0 : decide (a1 < 8) = false := decide_eq_false c8
              clear c8
              have H' := Aside0.mk H
              clear H
              go_wp2
              go_meet
              case rel => exact ⟨_, (false), (by first | rfl | (simp; done) | (simp [*]; done)), H', ⟨by have := HJ2.out; first | omega | exact Nat.le_refl _⟩, ⟨by repeat (first | (with_reducible first | exact HB.out | apply below_alloc | apply pw_below_drewN | apply below_drew1) | exact HB.out)⟩⟩
        case rest =>
          clear HC6
          try clear c1
          try clear p2
          try clear c4
          try clear c4b0
          try clear c5
          try clear p6
          try clear c7
          try clear c7b0
          try clear c8
          try clear c8b0
          try clear c10
          try clear c10b0
          try clear c10b1
          try clear p2
          obtain ⟨kq, x26_5, rfl, HA, HJ5, HB⟩ := hcut
          cases kq with
          | zero => exact absurd HA.out (by simp [octet_Put.j1])
          | succ kj5 =>
            have H := HA.out
            clear HA
            simp only [octet_Put.j1] at H
            by_cases c12 : x26_5 = true
            · subst c12
              have H1 : (some ((⟨#[]⟩ : ByteArray), 10)) = some (r1, r2) := by rw [if_pos rfl] at H; exact H
              clear H
              have H := H1
              clear H1
              simp only [Option.some.injEq, Prod.mk.injEq] at H
              obtain ⟨rfl, rfl⟩ := H
              go_wp2
              go_ret2
              exact ⟨by first | rfl | (simp [errW_none, errW_some] <;> rfl) | (simp [*, errW_none, errW_some] <;> rfl), by repeat (first | (with_reducible first | exact HB.out | apply below_alloc | apply pw_below_drewN | apply below_drew1) | exact HB.out)⟩
            · replace c12 := Bool.eq_false_iff.mpr c12
              subst c12
              have H1 : (if 0 ≤ a1 then (if (a1 : Int).toNat ≤ 281474976710656 then ((some (List.replicate (a1 : Int).toNat 0 : List Int)).bind fun y234 => (octet_Put.l0 kj5 a0 a1 y234 (y234.length : Int) 0)) else (none)) else (none)) = some (r1, r2) := by rw [if_neg (show ¬ (false = true) by decide)] at H; exact H
              clear H
              have H := H1
              clear H1
              by_cases c13 : 0 ≤ a1
              · rw [if_pos c13] at H
                have c13b0 := eq_true c13
                have c13b1 : decide (0 ≤ a1) = true := decide_eq_true c13
                clear c13
                by_cases c14 : (a1 : Int).toNat ≤ 281474976710656
                · rw [if_pos c14] at H
                  have c14b0 := eq_true c14
                  have c14b1 : decide ((a1 : Int).toNat ≤ 281474976710656) = true := decide_eq_true c14
                  clear c14
                  obtain ⟨y234, hy234⟩ : ∃ y_ : List Int, y_ = (List.replicate (a1 : Int).toNat 0) := ⟨_, rfl⟩
                  replace H : (octet_Put.l0 kj5 a0 a1 y234 (y234.length : Int) 0) = some (r1, r2) := by first | (rw [hy234]; with_reducible exact H) | (have H2_ := (Option.bind_some _ _).symm.trans H; rw [hy234]; with_reducible exact H2_) | (have H2_ := (Option.bind_some _ _).symm.trans H; with_reducible exact H2_) | with_reducible exact H | (rw [hy234]; exact H) | exact H
                  have Ny234 := Aside0.mk hy234
                  clear hy234
                  have H' := Aside0.mk H
                  clear H
                  go_wp2_with (first | ((with_reducible refine gate_dst (N := 28) rfl ?_); refine Kd.R_make (Kd.int .u8) _ 5 rfl (N := 28) rfl 80 _ _ rfl a1 rfl rfl Try.underlying80 (.int .u8 0) 1 info5 rfl (by decide) (by omega) 0 (ok := fun _ => True) (okp := fun _ => True) rfl (fun _ hk => hk) trivial (of_decide_eq_true (by first | (with_reducible assumption) | assumption)) (Nat.le_trans (Nat.mul_le_mul_right _ (of_decide_eq_true (by first | (with_reducible assumption) | assumption) : a1.toNat ≤ 281474976710656)) (by omega)) (Below.refl _ _) (Nat.le_refl _) ?_; intro v235 w15 ho16 hb hg_ hnew_; clear hg_ hnew_; (first | rw [← Ny234.out] at ho16 | (simp only [Int.reduceToNat] at ho16; rw [← Ny234.out] at ho16)); have n0_ := Aside0.mk (Kd.R_lower ho16 (below_size (by repeat (first | (with_reducible first | exact HB.out | apply below_alloc | apply pw_below_drewN | apply below_drew1) | exact HB.out)))); have n1_ := Aside0.mk (below_step (by repeat (first | (with_reducible first | exact HB.out | apply below_alloc | apply pw_below_drewN | apply below_drew1) | exact HB.out)) hb); clear HB; have HO236 := n0_; have HB := n1_; clear n0_ n1_; clear hb ho16; obtain ⟨Ao17, co17, eo17⟩ := Kd.R_slice HO236.out; subst eo17))
                  go_loopg [31] kj5 (fun kq v31 w' => ∃ (x6_3 : List Int) (x31_3 : Int), v31 = .int .i64 x31_3 ∧ Aside0 (octet_Put.l0 kq a0 a1 x6_3 (y234.length : Int) x31_3 = some (r1, r2)) ∧ Aside0 (kq ≤ kj5) ∧ Aside0 (Kd.R (Kd.int .u8) 5 w' w.heap.size (fun _ => True) (.slice Ao17 y234.length co17) x6_3) ∧ Aside0 (Below w.heap.size w w'))
                  case atStart => exact ⟨(y234), (0), (by first | rfl | (simp; done) | (simp [*]; done)), H', ⟨Nat.le_refl _⟩, ⟨by (with_reducible repeat (first | apply Kd.R_alloc | apply Kd.R_drewN | apply Kd.R_drew)); exact HO236.out⟩, ⟨by repeat (first | (with_reducible first | exact HB.out | apply below_alloc | apply pw_below_drewN | apply below_drew1) | exact HB.out)⟩⟩
                  case round =>
                    clear H'
                    try clear c1
                    try clear p2
                    try clear c4
                    try clear c4b0
                    try clear c5
                    try clear p6
                    try clear c7
                    try clear c7b0
                    try clear c8
                    try clear c8b0
                    try clear c10
                    try clear c10b0
                    try clear c10b1
                    try clear c12
                    try clear c13
                    try clear c13b0
                    try clear c13b1
                    try clear c14
                    try clear c14b0
                    try clear c14b1
                    try clear p2
                    try clear p6
                    obtain ⟨x6_3, x31_3, rfl, HA, HK3, HO_6, HB⟩ := hrel
                    have hl6_3 := (Kd.R_reads' HO_6.out).1
                    rw [hl6_3] at HO_6
                    (try simp only [hl6_3])
                    cases gk with
                    | zero => exact absurd HA.out (by simp [octet_Put.l0])
                    | succ k3 =>
                      have H := HA.out
                      clear HA
                      simp only [octet_Put.l0] at H
                      by_cases c18 : x31_3 < (y234.length : Int)
                      · rw [if_pos c18] at H
                        have c18b0 : decide (x31_3 < (y234.length : Int)) = true := decide_eq_true c18
                        clear c18
                        (try (have c18b0x := c18b0; simp only [hl6_3] at c18b0x))
                        obtain ⟨ji19, hji19⟩ : ∃ j_ : Int, (wrap64 (8 * (wrap64 ((wrap64 (a1 - 1)) - x31_3)))) = j_ := ⟨_, rfl⟩
                        replace H : (if 0 ≤ (ji19) then (if 0 ≤ x31_3 then (if x31_3 < (x6_3.length : Int) then (octet_Put.l0 k3 a0 a1 (x6_3.set (x31_3 : Int).toNat ((shr .i64 a0 (ji19)) % 256)) (y234.length : Int) (wrap64 (x31_3 + 1))) else (none)) else (none)) else (none)) = some (r1, r2) := by first | (rw [hji19] at H; exact H) | (simp only [hji19] at H ⊢; exact H)
                        have hji19w : (IntKind.i64.wrap (8 * (wrap64 ((wrap64 (a1 - 1)) - x31_3)))) = ji19 := (i64_w _).trans hji19
                        by_cases c20 : 0 ≤ (ji19)
                        · rw [if_pos c20] at H
                          have c20b0 := eq_true c20
                          have c20b1 : decide (0 ≤ (ji19)) = true := decide_eq_true c20
                          clear c20
                          (try (have c20b0x := c20b0; simp only [hl6_3] at c20b0x))
                          (try (have c20b1x := c20b1; simp only [hl6_3] at c20b1x))
                          obtain ⟨ji21, hji21⟩ : ∃ j_ : Int, (shr .i64 a0 (ji19)) = j_ := ⟨_, rfl⟩
                          replace H : (if 0 ≤ x31_3 then (if x31_3 < (x6_3.length : Int) then (octet_Put.l0 k3 a0 a1 (x6_3.set (x31_3 : Int).toNat ((ji21) % 256)) (y234.length : Int) (wrap64 (x31_3 + 1))) else (none)) else (none)) = some (r1, r2) := by first | (rw [hji21] at H; exact H) | (simp only [hji21] at H ⊢; exact H)
                          have hji21_ : (a0 / 2 ^ min (ji19).toNat 64) = ji21 := hji21
                          have hji21z : (ji19) ≤ 64 → (a0 / 2 ^ (ji19).toNat) = ji21 := shr_small hji21
                          by_cases c22 : 0 ≤ x31_3
                          · rw [if_pos c22] at H
                            have c22b0 : decide (0 ≤ x31_3) = true := decide_eq_true c22
                            clear c22
                            (try (have c22b0x := c22b0; simp only [hl6_3] at c22b0x))
                            by_cases c23 : x31_3 < (x6_3.length : Int)
                            · rw [if_pos c23] at H
                              have c23b0 : decide (x31_3 < (x6_3.length : Int)) = true := decide_eq_true c23
                              clear c23
                              (try (have c23b0x := c23b0; simp only [hl6_3] at c23b0x))
                              obtain ⟨y237, hy237⟩ : ∃ y_ : List Int, y_ = (x6_3.set (x31_3 : Int).toNat ((ji21) % 256)) := ⟨_, rfl⟩
                              replace H : (octet_Put.l0 k3 a0 a1 y237 (y234.length : Int) (wrap64 (x31_3 + 1))) = some (r1, r2) := by first | (rw [hy237]; with_reducible exact H) | (have H2_ := (Option.bind_some _ _).symm.trans H; rw [hy237]; with_reducible exact H2_) | (have H2_ := (Option.bind_some _ _).symm.trans H; with_reducible exact H2_) | with_reducible exact H | (rw [hy237]; exact H) | exact H
                              have Ny237 := Aside0.mk hy237
                              clear hy237
                              have H' := Aside0.mk H
                              clear H
                              have p24 : 0 ≤ (x31_3 : Int) := of_decide_eq_true (by first | (with_reducible assumption) | assumption)
                              have q24 : (x31_3 : Int) < ((x6_3.length : Int) : Int) := of_decide_eq_true (by first | (with_reducible assumption) | assumption)
                              obtain ⟨go24, co24, eo24, gb24, gl24, cl24, HG24⟩ := Kd.R_form HO_6.out (by omega)
                              (first | cases eo24 | (injection eo24 with ea_ en_ ec_; (first | subst ea_ | (injection ea_ with ea_; subst ea_)); subst ec_; clear en_))
                              have GB24 := Aside0.mk gb24
                              have GG24 := Aside0.mk HG24
                              clear gb24 gl24 HG24
                              obtain ⟨hx24_0, hf24_0⟩ := Kd.R_celln 0 HO_6.out (x31_3 : Int) p24 q24
                              replace p24 := eq_true p24
                              replace q24 := eq_true q24
                              have HP25 := Kd.R_putg HO_6.out (x31_3 : Int) ((ji21) % 256)
                              go_wp2_with (first | ((with_reducible refine gate_store (t := 5) (p := 44) rfl ?_); refine store_event (t := 5) (p := 44) (v := ?vo_w26) (w1 := (wr.setCell ⟨go24, (x31_3 : Int).toNat, none⟩ (.int .u8 ((ji21) % 256)))) ?hg ?ho ?hn ?hr ?_; (case ho => rfl); (case hg => rfl); (case hn => rfl); (case hr => first | (go_simp; done) | (go_simp; rfl) | (go_simp; simp only [w64m])); intro w26 hw; have hg : wr.grownBy w26 (some go24) := (by rw [hw]; exact HP25.2); have hp_ : Kd.R (Kd.int .u8) 5 w26 w.heap.size (fun _ => True) (.slice (some ⟨go24, 0, none⟩) x6_3.length co17) y237 := (by rw [hw, Ny237.out]; exact HP25.1); clear HP25; have n0_ := Aside0.mk (hp_); have n1_ := Aside0.mk ((by rw [hw]; exact below_set (HB.out) GB24.out : Below w.heap.size w w26)); clear HO_6; clear HB; have HO_6 := n0_; have HB := n1_; clear n0_ n1_; clear hg hw hp_))
                              (try simp only [← hl6_3])
                              go_roundg k3
                              case measure => have := HJ2.out; have := HJ5.out; have := HK3.out; omega
                              case rel => exact ⟨(y237), (wrap64 (x31_3 + 1)), (by first | rfl | (simp; done) | (simp [*]; done)), H', ⟨by have := HJ2.out; have := HJ5.out; have := HK3.out; omega⟩, ⟨by (try simp only [hl6_3]); (with_reducible repeat (first | apply Kd.R_alloc | apply Kd.R_drewN | apply Kd.R_drew)); exact HO_6.out⟩, ⟨by repeat (first | (with_reducible first | exact HB.out | apply below_alloc | apply pw_below_drewN | apply below_drew1) | exact HB.out)⟩⟩
                            · rw [if_neg c23] at H
                              exact absurd H (by simp)
                          · rw [if_neg c22] at H
                            exact absurd H (by simp)
                        · rw [if_neg c20] at H
                          exact absurd H (by simp)
                      · rw [if_neg c18] at H
                        have c18b0 : decide (x31_3 < (y234.length : Int)) = false := decide_eq_false c18
                        clear c18
                        (try (have c18b0x := c18b0; simp only [hl6_3] at c18b0x))
                        simp only [Option.some.injEq, Prod.mk.injEq] at H
                        obtain ⟨rfl, rfl⟩ := H
                        have hcv27 := own_string (P := Try.prog) Try.underlying80 Try.underlying5 Try.underlying9 (Kd.own_of_R HO_6.out)
                        go_wp2
                        go_ret2
                        exact ⟨by first | rfl | (simp [errW_none, errW_some] <;> rfl) | (simp [*, errW_none, errW_some] <;> rfl), by repeat (first | (with_reducible first | exact HB.out | apply below_alloc | apply pw_below_drewN | apply below_drew1) | exact HB.out)⟩
                · rw [if_neg c14] at H
                  exact absurd H (by simp)
              · rw [if_neg c13] at H
                exact absurd H (by simp)

/-! ### dirty_Bytes: function 30 -/
def dirty_Bytes.l0 : Nat → List Int → List (S63) → Int → Int → Option (ByteArray × Int)
  | 0, _, _, _, _ => none
  | k + 1, x4, x16, x17, x18 => if x18 < x17 then (if 0 ≤ x18 then (if x18 < (x16.length : Int) then ((octet_Put.f k (wrap64 ((rd_T63 x16 x18).f1)) 4).bind fun bt244 => (if x4.length < 140737488355328 then ((some (x4 ++ [((rd_T63 x16 x18).f0) % 256] : List Int)).bind fun y246 => (if y246.length + bt244.1.size < 140737488355328 then (dirty_Bytes.l0 k (y246 ++ bytesOf bt244.1) x16 x17 (wrap64 (x18 + 1))) else (none))) else (none))) else (none)) else (none)) else (some (strOfNums x4, 0))
def dirty_Bytes.f (k : Nat) (l0 : List (S63)) : Option (ByteArray × Int) := (dirty_Right.f k l0).bind fun t238 => (if t238 = true then (dirty_Bytes.l0 k (([((l0.length : Int)) % 256] : List Int)) l0 (l0.length : Int) 0) else (some ((⟨#[]⟩ : ByteArray), 1)))
theorem dirty_Bytes.mono_l : ∀ k, (∀ y0 y1 y2 y3, LeO (dirty_Bytes.l0 k y0 y1 y2 y3) (dirty_Bytes.l0 (k + 1) y0 y1 y2 y3))
  | 0 => fun _ _ _ _ r h => by simp [dirty_Bytes.l0] at h
  | k + 1 => by
    have ih0 := dirty_Bytes.mono_l k
    · intro y0 y1 y2 y3
      unfold dirty_Bytes.l0
      repeat' first
      | (with_reducible exact ih0 _ _ _ _)
      | (with_reducible exact dirty_Right.mono _ _)
      | (with_reducible exact octet_Put.mono _ _ _)
      | (with_reducible exact LeO.refl _)
      | (with_reducible exact LeO.none _)
      | (with_reducible refine LeO.ite ?_ ?_)
      | (with_reducible refine LeO.bind ?_ (fun _ => ?_))
      | exact ih0 _ _ _ _
      | exact dirty_Right.mono _ _
      | exact octet_Put.mono _ _ _
      | exact LeO.none _
      | refine LeO.ite ?_ ?_
      | refine LeO.bind ?_ (fun _ => ?_)
theorem dirty_Bytes.mono : ∀ a0 k, LeO (dirty_Bytes.f k a0) (dirty_Bytes.f (k + 1) a0) := by
  intro a0 k
  have ih0 := dirty_Bytes.mono_l k
  unfold dirty_Bytes.f
  repeat' first
      | (with_reducible exact ih0 _ _ _ _)
      | (with_reducible exact dirty_Right.mono _ _)
      | (with_reducible exact octet_Put.mono _ _ _)
      | (with_reducible exact LeO.refl _)
      | (with_reducible exact LeO.none _)
      | (with_reducible refine LeO.ite ?_ ?_)
      | (with_reducible refine LeO.bind ?_ (fun _ => ?_))
      | exact ih0 _ _ _ _
      | exact dirty_Right.mono _ _
      | exact octet_Put.mono _ _ _
      | exact LeO.none _
      | refine LeO.ite ?_ ?_
      | refine LeO.bind ?_ (fun _ => ?_)
set_option maxHeartbeats 8000000 in
set_option maxRecDepth 100000 in
theorem dirty_Bytes.calls (k : Nat) (A0 : Option Addr) (c0 : Nat) (l0 : List (S63)) (r1 : ByteArray) (r2 : Int) (w : World) (hr0 : Kd.C k63 w A0 l0.length l0) (hc0 : l0.length ≤ c0) (h : dirty_Bytes.f k l0 = some (r1, r2)) :
    Calls Try.prog 30 #[.slice A0 l0.length c0] w fun e w' => e = .returned (.tuple #[.string r1, .int .i64 r2]) ∧ Below w.heap.size w w' := by
  have hu63 := Try.underlying63
  have HR0 := Aside0.mk hr0
  have HC0 := Aside0.mk hc0
  clear hr0 hc0
  have HB := Aside0.mk (Below.refl w.heap.size w)
  have H : ((dirty_Right.f k l0).bind fun t238 => (if t238 = true then (dirty_Bytes.l0 k (([((l0.length : Int)) % 256] : List Int)) l0 (l0.length : Int) 0) else (some ((⟨#[]⟩ : ByteArray), 1)))) = some (r1, r2) := h
  clear h
  replace H := Option.bind_eq_some_iff.mp H
  obtain ⟨t238, A20, H⟩ := H
  replace H : (if t238 = true then (dirty_Bytes.l0 k (([((l0.length : Int)) % 256] : List Int)) l0 (l0.length : Int) 0) else (some ((⟨#[]⟩ : ByteArray), 1))) = some (r1, r2) := H
  have A2 := Aside0.mk A20
  clear A20
  by_cases c3 : t238 = true
  · subst c3
    have H1 : (dirty_Bytes.l0 k (([((l0.length : Int)) % 256] : List Int)) l0 (l0.length : Int) 0) = some (r1, r2) := by rw [if_pos rfl] at H; exact H
    clear H
    have H := H1
    clear H1
    obtain ⟨y239, hy239⟩ : ∃ y_ : List Int, y_ = (([((l0.length : Int)) % 256] : List Int)) := ⟨_, rfl⟩
    replace H : (dirty_Bytes.l0 k y239 l0 (l0.length : Int) 0) = some (r1, r2) := by first | (rw [hy239]; with_reducible exact H) | (have H2_ := (Option.bind_some _ _).symm.trans H; rw [hy239]; with_reducible exact H2_) | (have H2_ := (Option.bind_some _ _).symm.trans H; with_reducible exact H2_) | with_reducible exact H | (rw [hy239]; exact H) | exact H
    have Ny239 := Aside0.mk hy239
    clear hy239
    have H' := Aside0.mk H
    clear H
    go_enter Try.func30, Try.ntmps30
    go_wp2_with (first | ((with_reducible refine gate_callee (f := 14) rfl ?_); refine goesL_ (some 10) rfl rfl Try.func14 (by kernel_rfl) rfl #[.slice A0 l0.length c0] rfl (by (try simp only [List.map_toArray, List.map_cons, List.map_nil]); first | done | rfl | (simp only [List.length_drop, List.length_take]; rfl)) ?_; (with_reducible refine (dirty_Right.calls k _ _ l0 true _ ?side1 ?side2 A2.out).mono ?_); (case side1 => repeat (first | exact HR0.out | (with_reducible refine Kd.C_alloc ?_ _) | (with_reducible refine Kd.C_drewN ?_ _) | (with_reducible refine Kd.C_drew ?_))); (case side2 => exact HC0.out); rintro e w4 ⟨rfl, hb⟩; refine ⟨_, rfl, ?_⟩; have n0_ := Aside0.mk (below_step (by repeat (first | (with_reducible first | exact HB.out | apply below_alloc | apply pw_below_drewN | apply below_drew1) | exact HB.out)) hb); clear HB; have HB := n0_; clear n0_; (try clear hb); (try clear hb2); (try clear hk); (try clear hi)) | ((with_reducible refine gate_dst (N := 15) rfl ?_); refine Kd.R_lit (Kd.int .u8) _ 5 ?hg (N := 15) ?hd (xs := ([((l0.length : Int)) % 256] : List Int)) (inner := [.int .u8 (((l0.length : Int)) % 256)]) (ok := fun _ => True) (okp := fun _ => True) ?hr ?hp (fun _ hk => hk) trivial (Below.refl _ _) (Nat.le_refl _) (by simp) ?_; (case hd => rfl); (case hg => rfl); (case hr => first | (go_simp; done) | (go_simp; rfl) | (go_simp; simp only [w64m])); (case hp => exact (Reps.one (show Kd.M (Kd.int .u8) _ _ _ (((l0.length : Int)) % 256) [.int .u8 (((l0.length : Int)) % 256)] from rfl) (Reps.none _ _))); intro v240 w5 ho6 hb hg_ hnew_; clear hg_ hnew_; (first | rw [← Ny239.out] at ho6 | (simp only [Int.reduceToNat] at ho6; rw [← Ny239.out] at ho6)); have n0_ := Aside0.mk (Kd.R_lower ho6 (below_size (by repeat (first | (with_reducible first | exact HB.out | apply below_alloc | apply pw_below_drewN | apply below_drew1) | exact HB.out)))); have n1_ := Aside0.mk (below_step (by repeat (first | (with_reducible first | exact HB.out | apply below_alloc | apply pw_below_drewN | apply below_drew1) | exact HB.out)) hb); clear HB; have HO241 := n0_; have HB := n1_; clear n0_ n1_; clear hb ho6))
    go_loopg [4, 18] k (fun kq v4 v18 w' => ∃ (x4_1 : List Int) (x18_1 : Int), v18 = .int .i64 x18_1 ∧ Aside0 (dirty_Bytes.l0 kq x4_1 l0 (l0.length : Int) x18_1 = some (r1, r2)) ∧ Aside0 (kq ≤ k) ∧ Aside0 (Kd.R (Kd.int .u8) 5 w' w.heap.size (fun _ => True) v4 x4_1) ∧ Aside0 (Below w.heap.size w w'))
    case atStart => exact ⟨(y239), (0), (by first | rfl | (simp; done) | (simp [*]; done)), H', ⟨Nat.le_refl _⟩, ⟨by (with_reducible repeat (first | apply Kd.R_alloc | apply Kd.R_drewN | apply Kd.R_drew)); exact HO241.out⟩, ⟨by repeat (first | (with_reducible first | exact HB.out | apply below_alloc | apply pw_below_drewN | apply below_drew1) | exact HB.out)⟩⟩
    case round =>
      clear H'
      try clear c1
      try clear p2
      try clear c3
      obtain ⟨x4_1, x18_1, rfl, HA, HK1, HO_4, HB⟩ := hrel
      cases gk with
      | zero => exact absurd HA.out (by simp [dirty_Bytes.l0])
      | succ k1 =>
        have H := HA.out
        clear HA
        simp only [dirty_Bytes.l0] at H
        by_cases c7 : x18_1 < (l0.length : Int)
        · rw [if_pos c7] at H
          have c7b0 : decide (x18_1 < (l0.length : Int)) = true := decide_eq_true c7
          clear c7
          by_cases c8 : 0 ≤ x18_1
          · rw [if_pos c8] at H
            have c8b0 : decide (0 ≤ x18_1) = true := decide_eq_true c8
            clear c8
            by_cases c9 : x18_1 < (l0.length : Int)
            · rw [if_pos c9] at H
              have c9b0 : decide (x18_1 < (l0.length : Int)) = true := decide_eq_true c9
              clear c9
              replace H := Option.bind_eq_some_iff.mp H
              obtain ⟨⟨t244, t245⟩, A100, H⟩ := H
              replace H : (if x4_1.length < 140737488355328 then ((some (x4_1 ++ [((rd_T63 l0 x18_1).f0) % 256] : List Int)).bind fun y246 => (if y246.length + t244.size < 140737488355328 then (dirty_Bytes.l0 k1 (y246 ++ bytesOf t244) l0 (l0.length : Int) (wrap64 (x18_1 + 1))) else (none))) else (none)) = some (r1, r2) := H
              have A10 := Aside0.mk A100
              clear A100
              by_cases c11 : x4_1.length < 140737488355328
              · rw [if_pos c11] at H
                have LMc11 := Aside0.mk c11
                clear c11
                obtain ⟨y246, hy246⟩ : ∃ y_ : List Int, y_ = (x4_1 ++ [((rd_T63 l0 x18_1).f0) % 256]) := ⟨_, rfl⟩
                replace H : (if y246.length + t244.size < 140737488355328 then (dirty_Bytes.l0 k1 (y246 ++ bytesOf t244) l0 (l0.length : Int) (wrap64 (x18_1 + 1))) else (none)) = some (r1, r2) := by first | (rw [hy246]; with_reducible exact H) | (have H2_ := (Option.bind_some _ _).symm.trans H; rw [hy246]; with_reducible exact H2_) | (have H2_ := (Option.bind_some _ _).symm.trans H; with_reducible exact H2_) | with_reducible exact H | (rw [hy246]; exact H) | exact H
                have Ny246 := Aside0.mk hy246
                clear hy246
                by_cases c12 : y246.length + t244.size < 140737488355328
                · rw [if_pos c12] at H
                  have LMc12 := Aside0.mk c12
                  clear c12
                  obtain ⟨y249, hy249⟩ : ∃ y_ : List Int, y_ = (y246 ++ bytesOf t244) := ⟨_, rfl⟩
                  replace H : (dirty_Bytes.l0 k1 y249 l0 (l0.length : Int) (wrap64 (x18_1 + 1))) = some (r1, r2) := by first | (rw [hy249]; with_reducible exact H) | (have H2_ := (Option.bind_some _ _).symm.trans H; rw [hy249]; with_reducible exact H2_) | (have H2_ := (Option.bind_some _ _).symm.trans H; with_reducible exact H2_) | with_reducible exact H | (rw [hy249]; exact H) | exact H
                  have Ny249 := Aside0.mk hy249
                  clear hy249
                  have H' := Aside0.mk H
                  clear H
                  have p242 : 0 ≤ (x18_1 : Int) := of_decide_eq_true (by first | (with_reducible assumption) | assumption)
                  have q242 : x18_1 < (l0.length : Int) := of_decide_eq_true (by first | (with_reducible assumption) | assumption)
                  obtain ⟨ad242, e242, hx242_0, hx242_1⟩ := at_T63 HR0.out x18_1 p242 q242
                  cases e242
                  replace hx242_0 := (HB.out.cell (World.block_lt_of_cell? w _ hx242_0)).trans hx242_0
                  replace hx242_1 := (HB.out.cell (World.block_lt_of_cell? w _ hx242_1)).trans hx242_1
                  replace p242 := eq_true p242
                  replace q242 := eq_true q242
                  go_wp2_with (first | ((with_reducible refine gate_dst (N := 6) rfl ?_); refine box_event ?hg (N := 6) ?hd (cs := #[.int .i64 0, .int .u64 0]) (t := 63) ?hr ?_; (case hd => rfl); (case hg => rfl); (case hr => first | (go_simp; done) | (go_simp; rfl) | (go_simp; simp only [w64m])); intro gb243 hg w13 hbox hb; have n0_ := Aside0.mk (Kd.R_below (by (with_reducible repeat (first | apply Kd.R_alloc | apply Kd.R_drewN | apply Kd.R_drew)); exact HO_4.out) hb); have n1_ := Aside0.mk (below_step (by repeat (first | (with_reducible first | exact HB.out | apply below_alloc | apply pw_below_drewN | apply below_drew1) | exact HB.out)) hb); have n2_ := Aside0.mk (hbox); have n3_ := Aside0.mk ((by rw [hg]; exact (below_size (by repeat (first | (with_reducible first | exact HB.out | apply below_alloc | apply pw_below_drewN | apply below_drew1) | exact HB.out))) : w.heap.size ≤ gb243)); have n4_ := Aside0.mk ((by rw [hg]; exact (below_size (by repeat (first | (with_reducible first | exact HB.out | apply below_alloc | apply pw_below_drewN | apply below_drew1) | exact HB.out))) : w.heap.size ≤ gb243)); clear HO_4; clear HB; have HO_4 := n0_; have HB := n1_; have BK243 := n2_; have GW243 := n3_; have GE243 := n4_; clear n0_ n1_ n2_ n3_ n4_; clear hb hbox hg; have hcz14_0 : w13.cell? ⟨gb243, 0, none⟩ = some (.int .i64 0) := (blk_cell BK243.out 0).trans rfl; have hcz14_1 : w13.cell? ⟨gb243, 1, none⟩ = some (.int .u64 0) := (blk_cell BK243.out 1).trans rfl; have hfz14_0 := blk_frozen BK243.out 0; have hfz14_1 := blk_frozen BK243.out 1) | ((with_reducible refine gate_callee (f := 41) rfl ?_); refine goesL_ (some 26) rfl rfl Try.func41 (by kernel_rfl) rfl #[.int .i64 (wrap64 ((rd_T63 l0 x18_1).f1)), .int .i64 4] rfl (by (try simp only [List.map_toArray, List.map_cons, List.map_nil]); first | done | rfl | (simp only [List.length_drop, List.length_take]; rfl)) ?_; (with_reducible refine (octet_Put.calls k1 (wrap64 ((rd_T63 l0 x18_1).f1)) 4 t244 t245 _ A10.out).mono ?_); rintro e w15 ⟨rfl, hb⟩; refine ⟨_, rfl, ?_⟩; have n0_ := Aside0.mk (Kd.R_below (by (with_reducible repeat (first | apply Kd.R_alloc | apply Kd.R_drewN | apply Kd.R_drew)); exact (Kd.R_mono (Kd.R_far (p := ⟨gb243, 1, none⟩) (Kd.R_far (p := ⟨gb243, 0, none⟩) (Kd.R_types HO_4.out BK243.out (by decide)) (fun _ hk => hk.2) (.int .i64 ((rd_T63 l0 x18_1).f0))) (fun _ hk => hk.2) (.int .u64 ((rd_T63 l0 x18_1).f1))) (fun _ h_ => h_.1))) hb); have n1_ := Aside0.mk (blk_below (g := gb243) (o := .cells #[.int .i64 ((rd_T63 l0 x18_1).f0), .int .u64 ((rd_T63 l0 x18_1).f1)] 63 (0, 0)) (by (with_reducible repeat (first | refine blk_drewN ?_ _ | refine blk_drew ?_ | refine blk_alloc ?_ _)); refine blk_put (cs := #[.int .i64 ((rd_T63 l0 x18_1).f0), .int .u64 0]) ?_ 1 _ rfl; (with_reducible repeat (first | refine blk_drewN ?_ _ | refine blk_drew ?_ | refine blk_alloc ?_ _)); refine blk_put (cs := #[.int .i64 0, .int .u64 0]) ?_ 0 _ rfl; (with_reducible repeat (first | refine blk_drewN ?_ _ | refine blk_drew ?_ | refine blk_alloc ?_ _)); exact BK243.out) hb); have n2_ := Aside0.mk (below_step (by repeat (first | (with_reducible first | exact HB.out | apply below_alloc | apply pw_below_drewN | apply below_drew1 | refine below_set ?_ GE243.out) | exact HB.out)) hb); clear HO_4; clear BK243; clear HB; have HO_4 := n0_; have BK243 := n1_; have HB := n2_; clear n0_ n1_ n2_; (try clear hb); (try clear hb2); (try clear hk); (try clear hi); have hcz16_0 : w15.cell? ⟨gb243, 0, none⟩ = some (.int .i64 ((rd_T63 l0 x18_1).f0)) := (blk_cell BK243.out 0).trans rfl; have hcz16_1 : w15.cell? ⟨gb243, 1, none⟩ = some (.int .u64 ((rd_T63 l0 x18_1).f1)) := (blk_cell BK243.out 1).trans rfl; have hfz16_0 := blk_frozen BK243.out 0; have hfz16_1 := blk_frozen BK243.out 1) | ((with_reducible refine gate_builtin (b := .append) (xs := #[.tmp 29, .tmp 33]) rfl ?_); at_builtin; refine Kd.R_append (Kd.int .u8) (w0 := w) w.heap.size rfl (.tmp 29) (.tmp 33) 80 5 (.int .u8 0) 1 rfl Try.underlying80 info5 rfl (by decide) (by omega) u4 x4_1 (((rd_T63 l0 x18_1).f0) % 256) [.int .u8 (((rd_T63 l0 x18_1).f0) % 256)] (fun _ => True) (fun _ => False) rfl rfl ?aP (fun _ hk => hk.elim) ?aF ?aO ?aB ?aS ?aL ?_; (case aP => exact rfl); (case aB => exact (by repeat (first | (with_reducible first | exact HB.out | apply below_alloc | apply pw_below_drewN | apply below_drew1 | refine below_set ?_ GE243.out) | exact HB.out))); (case aF => exact (fun _ _ => trivial)); (case aO => exact (by (with_reducible repeat (first | apply Kd.R_alloc | apply Kd.R_drewN | apply Kd.R_drew)); exact HO_4.out)); (case aS => exact (below_size (by repeat (first | (with_reducible first | exact HB.out | apply below_alloc | apply pw_below_drewN | apply below_drew1 | refine below_set ?_ GE243.out) | exact HB.out)))); (case aL => have := LMc11.out; omega); intro v247 w17 ho hb hg hat; rw [← Ny246.out] at ho; have n0_ := Aside0.mk (blk_grown (g := gb243) (o := .cells #[.int .i64 ((rd_T63 l0 x18_1).f0), .int .u64 ((rd_T63 l0 x18_1).f1)] 63 (0, 0)) (by (with_reducible repeat (first | refine blk_drewN ?_ _ | refine blk_drew ?_ | refine blk_alloc ?_ _)); exact BK243.out) hg (Kd.R_ne HO_4.out BK243.out (by decide))); have n1_ := Aside0.mk (hb); have n2_ := Aside0.mk (ho); clear BK243; clear HB; clear HO_4; have BK243 := n0_; have HB := n1_; have HO248 := n2_; clear n0_ n1_ n2_; clear ho hb hg hat) | (at_builtin; refine print_append_str (w0 := w) w.heap.size rfl (.tmp 34) _ 80 9 5 rfl Try.underlying80 Try.underlying9 info5 v247 y246 t244 rfl rfl ?aO ?aB ?aS ?aL ?_; (case aB => exact (by repeat (first | (with_reducible first | exact HB.out | apply below_alloc | apply pw_below_drewN | apply below_drew1 | refine below_set ?_ GE243.out) | exact HB.out))); (case aO => exact (Kd.own_of_R (by (with_reducible repeat (first | apply Kd.R_alloc | apply Kd.R_drewN | apply Kd.R_drew)); exact HO248.out))); (case aS => exact (below_size (by repeat (first | (with_reducible first | exact HB.out | apply below_alloc | apply pw_below_drewN | apply below_drew1 | refine below_set ?_ GE243.out) | exact HB.out)))); (case aL => have := LMc12.out; omega); intro v250 w18 ho0 hb hg; have ho := Kd.R_of_own (h1 := fun _ => rfl) (ok := fun _ => True) ho0 (fun _ _ => trivial); clear ho0; have hat := True.intro; rw [← Ny249.out] at ho; change Kd.R (Kd.int .u8) 5 w18 w.heap.size (fun _ => True) v250 y249 at ho; have n0_ := Aside0.mk (blk_grown (g := gb243) (o := .cells #[.int .i64 ((rd_T63 l0 x18_1).f0), .int .u64 ((rd_T63 l0 x18_1).f1)] 63 (0, 0)) (by (with_reducible repeat (first | refine blk_drewN ?_ _ | refine blk_drew ?_ | refine blk_alloc ?_ _)); exact BK243.out) hg (Kd.R_ne HO248.out BK243.out (by decide))); have n1_ := Aside0.mk (hb); have n2_ := Aside0.mk (ho); clear BK243; clear HB; clear HO248; have BK243 := n0_; have HB := n1_; have HO251 := n2_; clear n0_ n1_ n2_; clear ho hb hg hat))
                  go_roundg k1
                  case measure => have := HK1.out; omega
                  case rel => exact ⟨(y249), (wrap64 (x18_1 + 1)), (by first | rfl | (simp; done) | (simp [*]; done)), H', ⟨by have := HK1.out; omega⟩, ⟨by (with_reducible repeat (first | apply Kd.R_alloc | apply Kd.R_drewN | apply Kd.R_drew)); exact HO251.out⟩, ⟨by repeat (first | (with_reducible first | exact HB.out | apply below_alloc | apply pw_below_drewN | apply below_drew1 | refine below_set ?_ GE243.out) | exact HB.out)⟩⟩
                · rw [if_neg c12] at H
                  exact absurd H (by simp)
              · rw [if_neg c11] at H
                exact absurd H (by simp)
            · rw [if_neg c9] at H
              exact absurd H (by simp)
          · rw [if_neg c8] at H
            exact absurd H (by simp)
        · rw [if_neg c7] at H
          have c7b0 : decide (x18_1 < (l0.length : Int)) = false := decide_eq_false c7
          clear c7
          simp only [Option.some.injEq, Prod.mk.injEq] at H
          obtain ⟨rfl, rfl⟩ := H
          have hcv19 := own_string (P := Try.prog) Try.underlying80 Try.underlying5 Try.underlying9 (Kd.own_of_R HO_4.out)
          go_wp2
          go_ret2
          exact ⟨by first | rfl | (simp [errW_none, errW_some] <;> rfl) | (simp [*, errW_none, errW_some] <;> rfl), by repeat (first | (with_reducible first | exact HB.out | apply below_alloc | apply pw_below_drewN | apply below_drew1) | exact HB.out)⟩
  · replace c3 := Bool.eq_false_iff.mpr c3
    subst c3
    have H1 : (some ((⟨#[]⟩ : ByteArray), 1)) = some (r1, r2) := by rw [if_neg (show ¬ (false = true) by decide)] at H; exact H
    clear H
    have H := H1
    clear H1
    simp only [Option.some.injEq, Prod.mk.injEq] at H
    obtain ⟨rfl, rfl⟩ := H
    go_enter Try.func30, Try.ntmps30
    go_wp2_with (first | ((with_reducible refine gate_callee (f := 14) rfl ?_); refine goesL_ (some 10) rfl rfl Try.func14 (by kernel_rfl) rfl #[.slice A0 l0.length c0] rfl (by (try simp only [List.map_toArray, List.map_cons, List.map_nil]); first | done | rfl | (simp only [List.length_drop, List.length_take]; rfl)) ?_; (with_reducible refine (dirty_Right.calls k _ _ l0 false _ ?side1 ?side2 A2.out).mono ?_); (case side1 => repeat (first | exact HR0.out | (with_reducible refine Kd.C_alloc ?_ _) | (with_reducible refine Kd.C_drewN ?_ _) | (with_reducible refine Kd.C_drew ?_))); (case side2 => exact HC0.out); rintro e w20 ⟨rfl, hb⟩; refine ⟨_, rfl, ?_⟩; have n0_ := Aside0.mk (below_step (by repeat (first | (with_reducible first | exact HB.out | apply below_alloc | apply pw_below_drewN | apply below_drew1) | exact HB.out)) hb); clear HB; have HB := n0_; clear n0_; (try clear hb); (try clear hb2); (try clear hk); (try clear hi)))
    go_ret2
    exact ⟨by first | rfl | (simp [errW_none, errW_some] <;> rfl) | (simp [*, errW_none, errW_some] <;> rfl), by repeat (first | (with_reducible first | exact HB.out | apply below_alloc | apply pw_below_drewN | apply below_drew1) | exact HB.out)⟩

/-! ### counterfoilref10_Bytes: function 31 -/
def counterfoilref10_Bytes.l0 : Nat → List (S63) → ByteArray → Int → Option (ByteArray)
  | 0, _, _, _ => none
  | k + 1, x0, x3, x4 => if x4 < (x0.length : Int) then (if 0 ≤ x4 then ((some (([((rd_T63 x0 x4).f0) % 256, (wrap64 (Int.tdiv (wrap64 ((rd_T63 x0 x4).f1)) 16777216)) % 256, (Int.tmod (wrap64 (Int.tdiv (wrap64 ((rd_T63 x0 x4).f1)) 65536)) 256) % 256, (Int.tmod (wrap64 (Int.tdiv (wrap64 ((rd_T63 x0 x4).f1)) 256)) 256) % 256, (Int.tmod (wrap64 ((rd_T63 x0 x4).f1)) 256) % 256] : List Int) : List Int)).bind fun y257 => (if x3.size + (strOfNums y257).size ≤ 9223372036854775807 then (counterfoilref10_Bytes.l0 k x0 (x3 ++ (strOfNums y257)) (wrap64 (x4 + 1))) else (none))) else (none)) else (some x3)
def counterfoilref10_Bytes.f (k : Nat) (l0 : List (S63)) : Option (ByteArray) := counterfoilref10_Bytes.l0 k l0 (strOfNums (([((l0.length : Int)) % 256] : List Int))) 0
theorem counterfoilref10_Bytes.mono_l : ∀ k, (∀ y0 y1 y2, LeO (counterfoilref10_Bytes.l0 k y0 y1 y2) (counterfoilref10_Bytes.l0 (k + 1) y0 y1 y2))
  | 0 => fun _ _ _ r h => by simp [counterfoilref10_Bytes.l0] at h
  | k + 1 => by
    have ih0 := counterfoilref10_Bytes.mono_l k
    · intro y0 y1 y2
      unfold counterfoilref10_Bytes.l0
      repeat' first
      | (with_reducible exact ih0 _ _ _)
      | (with_reducible exact LeO.refl _)
      | (with_reducible exact LeO.none _)
      | (with_reducible refine LeO.ite ?_ ?_)
      | (with_reducible refine LeO.bind ?_ (fun _ => ?_))
      | exact ih0 _ _ _
      | exact LeO.none _
      | refine LeO.ite ?_ ?_
      | refine LeO.bind ?_ (fun _ => ?_)
theorem counterfoilref10_Bytes.mono : ∀ a0 k, LeO (counterfoilref10_Bytes.f k a0) (counterfoilref10_Bytes.f (k + 1) a0) := by
  intro a0 k
  have ih0 := counterfoilref10_Bytes.mono_l k
  unfold counterfoilref10_Bytes.f
  repeat' first
      | (with_reducible exact ih0 _ _ _)
      | (with_reducible exact LeO.refl _)
      | (with_reducible exact LeO.none _)
      | (with_reducible refine LeO.ite ?_ ?_)
      | (with_reducible refine LeO.bind ?_ (fun _ => ?_))
      | exact ih0 _ _ _
      | exact LeO.none _
      | refine LeO.ite ?_ ?_
      | refine LeO.bind ?_ (fun _ => ?_)
set_option maxHeartbeats 8000000 in
set_option maxRecDepth 100000 in
theorem counterfoilref10_Bytes.calls (k : Nat) (A0 : Option Addr) (c0 : Nat) (l0 : List (S63)) (r : ByteArray) (w : World) (hr0 : Kd.C k63 w A0 l0.length l0) (hc0 : l0.length ≤ c0) (h : counterfoilref10_Bytes.f k l0 = some r) :
    Calls Try.prog 31 #[.slice A0 l0.length c0] w fun e w' => e = .returned (.string r) ∧ Below w.heap.size w w' := by
  have HR0 := Aside0.mk hr0
  have HC0 := Aside0.mk hc0
  clear hr0 hc0
  have HB := Aside0.mk (Below.refl w.heap.size w)
  have H : (counterfoilref10_Bytes.l0 k l0 (strOfNums (([((l0.length : Int)) % 256] : List Int))) 0) = some r := h
  clear h
  obtain ⟨y252, hy252⟩ : ∃ y_ : List Int, y_ = (([((l0.length : Int)) % 256] : List Int)) := ⟨_, rfl⟩
  replace H : (counterfoilref10_Bytes.l0 k l0 (strOfNums y252) 0) = some r := by first | (rw [hy252]; with_reducible exact H) | (have H2_ := (Option.bind_some _ _).symm.trans H; rw [hy252]; with_reducible exact H2_) | (have H2_ := (Option.bind_some _ _).symm.trans H; with_reducible exact H2_) | with_reducible exact H | (rw [hy252]; exact H) | exact H
  have Ny252 := Aside0.mk hy252
  clear hy252
  have H' := Aside0.mk H
  clear H
  go_enter Try.func31, Try.ntmps31
  go_wp2_with (first | ((with_reducible refine gate_dst (N := 9) rfl ?_); refine Kd.R_lit (Kd.int .u8) _ 5 ?hg (N := 9) ?hd (xs := ([((l0.length : Int)) % 256] : List Int)) (inner := [.int .u8 (((l0.length : Int)) % 256)]) (ok := fun _ => True) (okp := fun _ => True) ?hr ?hp (fun _ hk => hk) trivial (Below.refl _ _) (Nat.le_refl _) (by simp) ?_; (case hd => rfl); (case hg => rfl); (case hr => first | (go_simp; done) | (go_simp; rfl) | (go_simp; simp only [w64m])); (case hp => exact (Reps.one (show Kd.M (Kd.int .u8) _ _ _ (((l0.length : Int)) % 256) [.int .u8 (((l0.length : Int)) % 256)] from rfl) (Reps.none _ _))); intro v253 w2 ho3 hb hg_ hnew_; clear hg_ hnew_; (first | rw [← Ny252.out] at ho3 | (simp only [Int.reduceToNat] at ho3; rw [← Ny252.out] at ho3)); have n0_ := Aside0.mk (Kd.R_lower ho3 (below_size (by repeat (first | (with_reducible first | exact HB.out | apply below_alloc | apply pw_below_drewN | apply below_drew1) | exact HB.out)))); have n1_ := Aside0.mk (below_step (by repeat (first | (with_reducible first | exact HB.out | apply below_alloc | apply pw_below_drewN | apply below_drew1) | exact HB.out)) hb); clear HB; have HO254 := n0_; have HB := n1_; clear n0_ n1_; clear hb ho3; have hcv4 := own_string (P := Try.prog) Try.underlying80 Try.underlying5 Try.underlying9 (Kd.own_of_R HO254.out)))
  go_loopg [3, 4] k (fun kq v3 v4 w' => ∃ (x3_1 : ByteArray) (x4_1 : Int), v3 = .string x3_1 ∧ v4 = .int .i64 x4_1 ∧ Aside0 (counterfoilref10_Bytes.l0 kq l0 x3_1 x4_1 = some r) ∧ Aside0 (kq ≤ k) ∧ Aside0 (Below w.heap.size w w'))
  case atStart => exact ⟨(strOfNums y252), (0), (by first | rfl | (simp; done) | (simp [*]; done)), (by first | rfl | (simp; done) | (simp [*]; done)), H', ⟨Nat.le_refl _⟩, ⟨by repeat (first | (with_reducible first | exact HB.out | apply below_alloc | apply pw_below_drewN | apply below_drew1) | exact HB.out)⟩⟩
  case round =>
    clear H'
    try clear p2
    try clear c3
    try clear hcv4
    obtain ⟨x3_1, x4_1, rfl, rfl, HA, HK1, HB⟩ := hrel
    cases gk with
    | zero => exact absurd HA.out (by simp [counterfoilref10_Bytes.l0])
    | succ k1 =>
      have H := HA.out
      clear HA
      simp only [counterfoilref10_Bytes.l0] at H
      by_cases c5 : x4_1 < (l0.length : Int)
      · rw [if_pos c5] at H
        have c5b0 : decide (x4_1 < (l0.length : Int)) = true := decide_eq_true c5
        clear c5
        by_cases c6 : 0 ≤ x4_1
        · rw [if_pos c6] at H
          have c6b0 : decide (0 ≤ x4_1) = true := decide_eq_true c6
          clear c6
          obtain ⟨y257, hy257⟩ : ∃ y_ : List Int, y_ = (([((rd_T63 l0 x4_1).f0) % 256, (wrap64 (Int.tdiv (wrap64 ((rd_T63 l0 x4_1).f1)) 16777216)) % 256, (Int.tmod (wrap64 (Int.tdiv (wrap64 ((rd_T63 l0 x4_1).f1)) 65536)) 256) % 256, (Int.tmod (wrap64 (Int.tdiv (wrap64 ((rd_T63 l0 x4_1).f1)) 256)) 256) % 256, (Int.tmod (wrap64 ((rd_T63 l0 x4_1).f1)) 256) % 256] : List Int)) := ⟨_, rfl⟩
          replace H : (if x3_1.size + (strOfNums y257).size ≤ 9223372036854775807 then (counterfoilref10_Bytes.l0 k1 l0 (x3_1 ++ (strOfNums y257)) (wrap64 (x4_1 + 1))) else (none)) = some r := by first | (rw [hy257]; with_reducible exact H) | (have H2_ := (Option.bind_some _ _).symm.trans H; rw [hy257]; with_reducible exact H2_) | (have H2_ := (Option.bind_some _ _).symm.trans H; with_reducible exact H2_) | with_reducible exact H | (rw [hy257]; exact H) | exact H
          have Ny257 := Aside0.mk hy257
          clear hy257
          by_cases c7 : x3_1.size + (strOfNums y257).size ≤ 9223372036854775807
          · rw [if_pos c7] at H
            have c7b0 := eq_true c7
            have c7b1 : decide (x3_1.size + (strOfNums y257).size ≤ 9223372036854775807) = true := decide_eq_true c7
            try have c7b2 : (9223372036854775807 < x3_1.size + (strOfNums y257).size) = False := eq_false (Nat.not_lt.2 c7)
            have H' := Aside0.mk H
            clear H
            have p255 : 0 ≤ (x4_1 : Int) := of_decide_eq_true (by first | (with_reducible assumption) | assumption)
            have q255 : x4_1 < (l0.length : Int) := of_decide_eq_true (by first | (with_reducible assumption) | assumption)
            obtain ⟨ad255, e255, hx255_0, hx255_1⟩ := at_T63 HR0.out x4_1 p255 q255
            cases e255
            replace hx255_0 := (HB.out.cell (World.block_lt_of_cell? w _ hx255_0)).trans hx255_0
            replace hx255_1 := (HB.out.cell (World.block_lt_of_cell? w _ hx255_1)).trans hx255_1
            replace p255 := eq_true p255
            replace q255 := eq_true q255
            have p256 : 0 ≤ (x4_1 : Int) := of_decide_eq_true (by first | (with_reducible assumption) | assumption)
            have q256 : x4_1 < (l0.length : Int) := of_decide_eq_true (by first | (with_reducible assumption) | assumption)
            obtain ⟨ad256, e256, hx256_0, hx256_1⟩ := at_T63 HR0.out x4_1 p256 q256
            obtain rfl : ad255 = ad256 := (by injection e256)
            replace hx256_0 := (HB.out.cell (World.block_lt_of_cell? w _ hx256_0)).trans hx256_0
            replace hx256_1 := (HB.out.cell (World.block_lt_of_cell? w _ hx256_1)).trans hx256_1
            replace p256 := eq_true p256
            replace q256 := eq_true q256
            go_wp2_with (first | ((with_reducible refine gate_dst (N := 44) rfl ?_); refine Kd.R_lit (Kd.int .u8) _ 5 ?hg (N := 44) ?hd (xs := ([((rd_T63 l0 x4_1).f0) % 256, (wrap64 (Int.tdiv (wrap64 ((rd_T63 l0 x4_1).f1)) 16777216)) % 256, (Int.tmod (wrap64 (Int.tdiv (wrap64 ((rd_T63 l0 x4_1).f1)) 65536)) 256) % 256, (Int.tmod (wrap64 (Int.tdiv (wrap64 ((rd_T63 l0 x4_1).f1)) 256)) 256) % 256, (Int.tmod (wrap64 ((rd_T63 l0 x4_1).f1)) 256) % 256] : List Int)) (inner := [.int .u8 (((rd_T63 l0 x4_1).f0) % 256), .int .u8 ((wrap64 (Int.tdiv (wrap64 ((rd_T63 l0 x4_1).f1)) 16777216)) % 256), .int .u8 ((Int.tmod (wrap64 (Int.tdiv (wrap64 ((rd_T63 l0 x4_1).f1)) 65536)) 256) % 256), .int .u8 ((Int.tmod (wrap64 (Int.tdiv (wrap64 ((rd_T63 l0 x4_1).f1)) 256)) 256) % 256), .int .u8 ((Int.tmod (wrap64 ((rd_T63 l0 x4_1).f1)) 256) % 256)]) (ok := fun _ => True) (okp := fun _ => True) ?hr ?hp (fun _ hk => hk) trivial (Below.refl _ _) (Nat.le_refl _) (by simp) ?_; (case hd => rfl); (case hg => rfl); (case hr => first | (go_simp; done) | (go_simp; rfl) | (go_simp; simp only [w64m])); (case hp => exact (Reps.one (show Kd.M (Kd.int .u8) _ _ _ (((rd_T63 l0 x4_1).f0) % 256) [.int .u8 (((rd_T63 l0 x4_1).f0) % 256)] from rfl) (Reps.one (show Kd.M (Kd.int .u8) _ _ _ ((wrap64 (Int.tdiv (wrap64 ((rd_T63 l0 x4_1).f1)) 16777216)) % 256) [.int .u8 ((wrap64 (Int.tdiv (wrap64 ((rd_T63 l0 x4_1).f1)) 16777216)) % 256)] from rfl) (Reps.one (show Kd.M (Kd.int .u8) _ _ _ ((Int.tmod (wrap64 (Int.tdiv (wrap64 ((rd_T63 l0 x4_1).f1)) 65536)) 256) % 256) [.int .u8 ((Int.tmod (wrap64 (Int.tdiv (wrap64 ((rd_T63 l0 x4_1).f1)) 65536)) 256) % 256)] from rfl) (Reps.one (show Kd.M (Kd.int .u8) _ _ _ ((Int.tmod (wrap64 (Int.tdiv (wrap64 ((rd_T63 l0 x4_1).f1)) 256)) 256) % 256) [.int .u8 ((Int.tmod (wrap64 (Int.tdiv (wrap64 ((rd_T63 l0 x4_1).f1)) 256)) 256) % 256)] from rfl) (Reps.one (show Kd.M (Kd.int .u8) _ _ _ ((Int.tmod (wrap64 ((rd_T63 l0 x4_1).f1)) 256) % 256) [.int .u8 ((Int.tmod (wrap64 ((rd_T63 l0 x4_1).f1)) 256) % 256)] from rfl) (Reps.none _ _))))))); intro v258 w8 ho9 hb hg_ hnew_; clear hg_ hnew_; (first | rw [← Ny257.out] at ho9 | (simp only [Int.reduceToNat] at ho9; rw [← Ny257.out] at ho9)); have n0_ := Aside0.mk (Kd.R_lower ho9 (below_size (by repeat (first | (with_reducible first | exact HB.out | apply below_alloc | apply pw_below_drewN | apply below_drew1) | exact HB.out)))); have n1_ := Aside0.mk (below_step (by repeat (first | (with_reducible first | exact HB.out | apply below_alloc | apply pw_below_drewN | apply below_drew1) | exact HB.out)) hb); clear HB; have HO259 := n0_; have HB := n1_; clear n0_ n1_; clear hb ho9; have hcv10 := own_string (P := Try.prog) Try.underlying80 Try.underlying5 Try.underlying9 (Kd.own_of_R HO259.out)))
            go_roundg k1
            case measure => have := HK1.out; omega
            case rel => exact ⟨(x3_1 ++ (strOfNums y257)), (wrap64 (x4_1 + 1)), (by first | rfl | (simp; done) | (simp [*]; done)), (by first | rfl | (simp; done) | (simp [*]; done)), H', ⟨by have := HK1.out; omega⟩, ⟨by repeat (first | (with_reducible first | exact HB.out | apply below_alloc | apply pw_below_drewN | apply below_drew1) | exact HB.out)⟩⟩
          · rw [if_neg c7] at H
            exact absurd H (by simp)
        · rw [if_neg c6] at H
          exact absurd H (by simp)
      · rw [if_neg c5] at H
        have c5b0 : decide (x4_1 < (l0.length : Int)) = false := decide_eq_false c5
        clear c5
        obtain rfl := Option.some.inj H
        go_wp2
        go_ret
        exact ⟨by first | rfl | (simp [errW_none, errW_some] <;> rfl) | (simp [*, errW_none, errW_some] <;> rfl), by repeat (first | (with_reducible first | exact HB.out | apply below_alloc | apply pw_below_drewN | apply below_drew1) | exact HB.out)⟩

end Go.Proofs.Ytcigkejiompieaa.P
