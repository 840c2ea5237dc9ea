-- Printed by this session's own program wip/mprint.py
import Derived.Test.YtafhlaehkaledaaPx0
import Derived.Test.YtafhlaehkaledaaPx1
import Derived.Test.YtafhlaehkaledaaPx3
import Derived.Test.YtafhlaehkaledaaPx4
namespace Go.Proofs.Ytafhlaehkaledaa.P
open Go.RowKit Go.Proofs.YtafhlaehkaledaaW.PrintWords Go.Proofs.YtafhlaehkaledaaW.PrintLast Go.Proofs.YtafhlaehkaledaaW.PrintMore
attribute [local go_sem] max2_int min2_int max_two min_two max_three min_three max_four min_four   -- for this text's walks alone
set_option linter.unusedVariables false
set_option linter.unusedSimpArgs false

/-! ### counterfoillaw14_SegBack: function 7 -/
mutual
def counterfoillaw14_SegBack.j0 : Nat → ByteArray → Int → List ByteArray → Bool → Option (Bool)
  | 0, _, _, _, _ => none
  | k + 1, x0, x1, x2, x23 => if x23 = true then ((counterfoillaw14_awake.f k).bind fun t223 => (some t223)) else ((seg_Cut.f k x0 x1).bind fun bt224 => (if bt224.2 = 0 then (counterfoillaw14_SegBack.l0 k x0 bt224.1 x2 (x2.length : Int) 0 0 ([] : List ByteArray)) else (if x1 < 1 then ((counterfoillaw14_awake.f k).bind fun t228 => (some t228)) else (if x1 > 508 then ((counterfoillaw14_awake.f k).bind fun t229 => (some t229)) else (some false)))))
def counterfoillaw14_SegBack.l0 : Nat → ByteArray → List ByteArray → List ByteArray → Int → Int → Int → List ByteArray → Option (Bool)
  | 0, _, _, _, _, _, _, _ => none
  | k + 1, x0, x7, x42, x43, x44, x231000, x231001 => if x44 < x43 then (if 0 ≤ x44 then (if x44 < (x42.length : Int) then ((seg_Feed.f k x231000 x231001 (rdOf ByteArray.empty x42 x44)).bind fun bt232 => (counterfoillaw14_SegBack.l0 k x0 x7 x42 x43 (wrap64 (x44 + 1)) bt232.1 bt232.2.1)) else (none)) else (none)) else (counterfoillaw14_SegBack.l1 k x0 x7 x7 (x7.length : Int) 0 x231000 x231001)
def counterfoillaw14_SegBack.l1 : Nat → ByteArray → List ByteArray → List ByteArray → Int → Int → Int → List ByteArray → Option (Bool)
  | 0, _, _, _, _, _, _, _ => none
  | k + 1, x0, x7, x57, x58, x59, x231000, x231001 => if x59 < x58 then (if 0 ≤ x59 then (if x59 < (x57.length : Int) then ((seg_Feed.f k x231000 x231001 (rdOf ByteArray.empty x57 x59)).bind fun bt240 => (if bt240.2.2.2.2 = 0 then (if (bt240.2.2.2.1 != (x59 == (wrap64 ((x7.length : Int) - 1)))) = true then (some false) else (if bt240.2.2.2.1 = true then (if bt240.2.2.1.toList = x0.toList then (counterfoillaw14_SegBack.l1 k x0 x7 x57 x58 (wrap64 (x59 + 1)) bt240.1 bt240.2.1) else (some false)) else (if bt240.2.2.1.toList = ([] : List UInt8) then (counterfoillaw14_SegBack.l1 k x0 x7 x57 x58 (wrap64 (x59 + 1)) bt240.1 bt240.2.1) else (some false)))) else (some false))) else (none)) else (none)) else (if x231000 = 0 then (if (x231001.length : Int) = 0 then ((counterfoillaw14_awake.f k).bind fun t247 => (some t247)) else (some false)) else (some false))
end
def counterfoillaw14_SegBack.f (k : Nat) (a0 : ByteArray) (a1 : Int) (l2 : List ByteArray) : Option (Bool) := if (a0.size : Int) > 4096 then (counterfoillaw14_SegBack.j0 k a0 a1 l2 true) else ((counterfoilref01_Small.f k l2 20 4096).bind fun t222 => (counterfoillaw14_SegBack.j0 k a0 a1 l2 (!t222)))
theorem counterfoillaw14_SegBack.mono_l : ∀ k, (∀ y0 y1 y2 y3, LeO (counterfoillaw14_SegBack.j0 k y0 y1 y2 y3) (counterfoillaw14_SegBack.j0 (k + 1) y0 y1 y2 y3)) ∧ (∀ y0 y1 y2 y3 y4 y5 y6, LeO (counterfoillaw14_SegBack.l0 k y0 y1 y2 y3 y4 y5 y6) (counterfoillaw14_SegBack.l0 (k + 1) y0 y1 y2 y3 y4 y5 y6)) ∧ (∀ y0 y1 y2 y3 y4 y5 y6, LeO (counterfoillaw14_SegBack.l1 k y0 y1 y2 y3 y4 y5 y6) (counterfoillaw14_SegBack.l1 (k + 1) y0 y1 y2 y3 y4 y5 y6))
  | 0 => ⟨fun _ _ _ _ r h => by simp [counterfoillaw14_SegBack.j0] at h, fun _ _ _ _ _ _ _ r h => by simp [counterfoillaw14_SegBack.l0] at h, fun _ _ _ _ _ _ _ r h => by simp [counterfoillaw14_SegBack.l1] at h⟩
  | k + 1 => by
    obtain ⟨ih0, ih1, ih2⟩ := counterfoillaw14_SegBack.mono_l k
    refine ⟨?_, ?_, ?_⟩
    · intro y0 y1 y2 y3
      unfold counterfoillaw14_SegBack.j0
      repeat' first
      | (with_reducible exact ih0 _ _ _ _)
      | (with_reducible exact ih1 _ _ _ _ _ _ _)
      | (with_reducible exact ih2 _ _ _ _ _ _ _)
      | (with_reducible exact counterfoillaw14_awake.mono _)
      | (with_reducible exact counterfoilref01_Small.mono _ _ _ _)
      | (with_reducible exact seg_Cut.mono _ _ _)
      | (with_reducible exact seg_Feed.mono _ _ _ _)
      | (with_reducible exact LeO.refl _)
      | (with_reducible exact LeO.none _)
      | (with_reducible refine LeO.ite ?_ ?_)
      | (with_reducible refine LeO.bind ?_ (fun _ => ?_))
      | exact ih0 _ _ _ _
      | exact ih1 _ _ _ _ _ _ _
      | exact ih2 _ _ _ _ _ _ _
      | exact counterfoillaw14_awake.mono _
      | exact counterfoilref01_Small.mono _ _ _ _
      | exact seg_Cut.mono _ _ _
      | exact seg_Feed.mono _ _ _ _
      | exact LeO.none _
      | refine LeO.ite ?_ ?_
      | refine LeO.bind ?_ (fun _ => ?_)
    · intro y0 y1 y2 y3 y4 y5 y6
      unfold counterfoillaw14_SegBack.l0
      repeat' first
      | (with_reducible exact ih0 _ _ _ _)
      | (with_reducible exact ih1 _ _ _ _ _ _ _)
      | (with_reducible exact ih2 _ _ _ _ _ _ _)
      | (with_reducible exact counterfoillaw14_awake.mono _)
      | (with_reducible exact counterfoilref01_Small.mono _ _ _ _)
      | (with_reducible exact seg_Cut.mono _ _ _)
      | (with_reducible exact seg_Feed.mono _ _ _ _)
      | (with_reducible exact LeO.refl _)
      | (with_reducible exact LeO.none _)
      | (with_reducible refine LeO.ite ?_ ?_)
      | (with_reducible refine LeO.bind ?_ (fun _ => ?_))
      | exact ih0 _ _ _ _
      | exact ih1 _ _ _ _ _ _ _
      | exact ih2 _ _ _ _ _ _ _
      | exact counterfoillaw14_awake.mono _
      | exact counterfoilref01_Small.mono _ _ _ _
      | exact seg_Cut.mono _ _ _
      | exact seg_Feed.mono _ _ _ _
      | exact LeO.none _
      | refine LeO.ite ?_ ?_
      | refine LeO.bind ?_ (fun _ => ?_)
    · intro y0 y1 y2 y3 y4 y5 y6
      unfold counterfoillaw14_SegBack.l1
      repeat' first
      | (with_reducible exact ih0 _ _ _ _)
      | (with_reducible exact ih1 _ _ _ _ _ _ _)
      | (with_reducible exact ih2 _ _ _ _ _ _ _)
      | (with_reducible exact counterfoillaw14_awake.mono _)
      | (with_reducible exact counterfoilref01_Small.mono _ _ _ _)
      | (with_reducible exact seg_Cut.mono _ _ _)
      | (with_reducible exact seg_Feed.mono _ _ _ _)
      | (with_reducible exact LeO.refl _)
      | (with_reducible exact LeO.none _)
      | (with_reducible refine LeO.ite ?_ ?_)
      | (with_reducible refine LeO.bind ?_ (fun _ => ?_))
      | exact ih0 _ _ _ _
      | exact ih1 _ _ _ _ _ _ _
      | exact ih2 _ _ _ _ _ _ _
      | exact counterfoillaw14_awake.mono _
      | exact counterfoilref01_Small.mono _ _ _ _
      | exact seg_Cut.mono _ _ _
      | exact seg_Feed.mono _ _ _ _
      | exact LeO.none _
      | refine LeO.ite ?_ ?_
      | refine LeO.bind ?_ (fun _ => ?_)
theorem counterfoillaw14_SegBack.mono : ∀ a0 a1 a2 k, LeO (counterfoillaw14_SegBack.f k a0 a1 a2) (counterfoillaw14_SegBack.f (k + 1) a0 a1 a2) := by
  intro a0 a1 a2 k
  obtain ⟨ih0, ih1, ih2⟩ := counterfoillaw14_SegBack.mono_l k
  unfold counterfoillaw14_SegBack.f
  repeat' first
      | (with_reducible exact ih0 _ _ _ _)
      | (with_reducible exact ih1 _ _ _ _ _ _ _)
      | (with_reducible exact ih2 _ _ _ _ _ _ _)
      | (with_reducible exact counterfoillaw14_awake.mono _)
      | (with_reducible exact counterfoilref01_Small.mono _ _ _ _)
      | (with_reducible exact seg_Cut.mono _ _ _)
      | (with_reducible exact seg_Feed.mono _ _ _ _)
      | (with_reducible exact LeO.refl _)
      | (with_reducible exact LeO.none _)
      | (with_reducible refine LeO.ite ?_ ?_)
      | (with_reducible refine LeO.bind ?_ (fun _ => ?_))
      | exact ih0 _ _ _ _
      | exact ih1 _ _ _ _ _ _ _
      | exact ih2 _ _ _ _ _ _ _
      | exact counterfoillaw14_awake.mono _
      | exact counterfoilref01_Small.mono _ _ _ _
      | exact seg_Cut.mono _ _ _
      | exact seg_Feed.mono _ _ _ _
      | exact LeO.none _
      | refine LeO.ite ?_ ?_
      | refine LeO.bind ?_ (fun _ => ?_)
set_option maxHeartbeats 8000000 in
set_option maxRecDepth 100000 in
theorem counterfoillaw14_SegBack.calls (k : Nat) (a0 : ByteArray) (a1 : Int) (A2 : Option Addr) (c2 : Nat) (l2 : List ByteArray) (r : Bool) (w : World) (hr2 : Kd.C Kd.string w A2 l2.length l2) (hc2 : l2.length ≤ c2) (h : counterfoillaw14_SegBack.f k a0 a1 l2 = some r) :
    Calls Try.prog 7 #[.string a0, .int .i64 a1, .slice A2 l2.length c2] w fun e w' => e = .returned (.bool r) ∧ Below w.heap.size w w' := by
  have hu35 := Try.underlying35
  have HR2 := Aside0.mk hr2
  have HC2 := Aside0.mk hc2
  clear hr2 hc2
  have HB := Aside0.mk (Below.refl w.heap.size w)
  have H : (if (a0.size : Int) > 4096 then (counterfoillaw14_SegBack.j0 k a0 a1 l2 true) else ((counterfoilref01_Small.f k l2 20 4096).bind fun t222 => (counterfoillaw14_SegBack.j0 k a0 a1 l2 (!t222)))) = some r := h
  clear h
  have HC4 := Aside0.mk H
  clear H
  go_enter Try.func7, Try.ntmps7
  go_upto_region 1 with (fail)
  go_cut [23] (fun v23 wc => ∃ (kq : Nat) (x23_3 : Bool), v23 = .bool x23_3 ∧ Aside0 (counterfoillaw14_SegBack.j0 kq a0 a1 l2 x23_3 = some r) ∧ Aside0 (kq ≤ k) ∧ Aside0 (Below w.heap.size w wc))
  case first =>
    have H := HC4.out
    clear HC4
    by_cases c5 : (a0.size : Int) > 4096
    · rw [if_pos c5] at H
      have c5b0 : decide (4096 < (a0.size : Int)) = true := decide_eq_true c5
      have c5b1 : decide (4096 < a0.size) = true := decide_eq_true (by omega)
      clear c5
      (first | rw [c5b0] | (simp only [i64_w, i32_w]; rw [c5b0]) | skip)
      have H' := Aside0.mk H
      clear H
      go_wp2
      go_meet
      case rel => exact ⟨_, (true), (by first | rfl | (simp; done) | (simp [*]; done)), H', ⟨by first | omega | exact Nat.le_refl _⟩, ⟨by repeat (first | (with_reducible first | exact HB.out | apply below_alloc | apply pw_below_drewN | apply below_drew1) | exact HB.out)⟩⟩
    · rw [if_neg c5] at H
      have c5b0 : decide (4096 < (a0.size : Int)) = false := decide_eq_false c5
      have c5b1 : decide (4096 < a0.size) = false := decide_eq_false (by omega)
      clear c5
      (first | rw [c5b0] | (simp only [i64_w, i32_w]; rw [c5b0]) | skip)
      replace H := Option.bind_eq_some_iff.mp H
      obtain ⟨t222, A60, H⟩ := H
      replace H : (counterfoillaw14_SegBack.j0 k a0 a1 l2 (!t222)) = some r := H
      have A6 := Aside0.mk A60
      clear A60
      have H' := Aside0.mk H
      clear H
      go_wp2_with (first | (go_at_call 13; (with_reducible refine (counterfoilref01_Small.calls k _ _ l2 20 4096 t222 _ ?side1 ?side2 A6.out).mono ?_); (case side1 => repeat (first | exact (Kd.C_below HR2.out HB.out) | (with_reducible refine Kd.C_alloc ?_ _) | (with_reducible refine Kd.C_drewN ?_ _) | (with_reducible refine Kd.C_drew ?_))); (case side2 => exact HC2.out); rintro e w' ⟨rfl, ⟨nd, rfl⟩⟩))
      go_meet
      case rel => exact ⟨_, (!t222), (by first | rfl | (simp; done) | (simp [*]; done)), H', ⟨by first | omega | exact Nat.le_refl _⟩, ⟨by repeat (first | (with_reducible first | exact HB.out | apply below_alloc | apply pw_below_drewN | apply below_drew1) | exact HB.out)⟩⟩
  case rest =>
    clear HC4
    try clear c2
    try clear p2
    try clear c5
    try clear c5b0
    try clear c5b1
    obtain ⟨kq, x23_3, rfl, HA, HJ3, HB⟩ := hcut
    cases kq with
    | zero => exact absurd HA.out (by simp [counterfoillaw14_SegBack.j0])
    | succ kj3 =>
      have H := HA.out
      clear HA
      simp only [counterfoillaw14_SegBack.j0] at H
      by_cases c7 : x23_3 = true
      · subst c7
        have H1 : ((counterfoillaw14_awake.f kj3).bind fun t223 => (some t223)) = some r := by rw [if_pos rfl] at H; exact H
        clear H
        have H := H1
        clear H1
        replace H := Option.bind_eq_some_iff.mp H
        obtain ⟨t223, A80, H⟩ := H
        replace H : (some t223) = some r := H
        have A8 := Aside0.mk A80
        clear A80
        obtain rfl := Option.some.inj H
        go_wp2_with (first | ((with_reducible refine gate_callee (f := 9) rfl ?_); refine goesL_ (some 24) rfl rfl Try.func9 (by kernel_rfl) rfl #[] rfl (by (try simp only [List.map_toArray, List.map_cons, List.map_nil]); first | done | rfl | (simp only [List.length_drop, List.length_take]; rfl)) ?_; (with_reducible refine (counterfoillaw14_awake.calls kj3  t223 _ A8.out).mono ?_); rintro e w9 ⟨rfl, hb⟩; refine ⟨_, rfl, ?_⟩; have n0_ := Aside0.mk (below_step (by repeat (first | (with_reducible first | exact HB.out | apply below_alloc | apply pw_below_drewN | apply below_drew1) | exact HB.out)) hb); clear HB; have HB := n0_; clear n0_; (try clear hb); (try clear hb2); (try clear hk); (try clear hi)))
        go_ret
        exact ⟨by first | rfl | (simp [errW_none, errW_some] <;> rfl) | (simp [*, errW_none, errW_some] <;> rfl), by repeat (first | (with_reducible first | exact HB.out | apply below_alloc | apply pw_below_drewN | apply below_drew1) | exact HB.out)⟩
      · replace c7 := Bool.eq_false_iff.mpr c7
        subst c7
        have H1 : ((seg_Cut.f kj3 a0 a1).bind fun bt224 => (if bt224.2 = 0 then (counterfoillaw14_SegBack.l0 kj3 a0 bt224.1 l2 (l2.length : Int) 0 0 ([] : List ByteArray)) else (if a1 < 1 then ((counterfoillaw14_awake.f kj3).bind fun t228 => (some t228)) else (if a1 > 508 then ((counterfoillaw14_awake.f kj3).bind fun t229 => (some t229)) else (some false))))) = some r := by rw [if_neg (show ¬ (false = true) by decide)] at H; exact H
        clear H
        have H := H1
        clear H1
        replace H := Option.bind_eq_some_iff.mp H
        obtain ⟨⟨t224, t225⟩, A100, H⟩ := H
        replace H : (if t225 = 0 then (counterfoillaw14_SegBack.l0 kj3 a0 t224 l2 (l2.length : Int) 0 0 ([] : List ByteArray)) else (if a1 < 1 then ((counterfoillaw14_awake.f kj3).bind fun t228 => (some t228)) else (if a1 > 508 then ((counterfoillaw14_awake.f kj3).bind fun t229 => (some t229)) else (some false)))) = some r := H
        have A10 := Aside0.mk A100
        clear A100
        by_cases c11 : t225 = 0
        · rw [if_pos c11] at H
          have c11b0 : (t225 == 0) = true := beq_iff_eq.mpr c11
          have c11b1 : (t225 != 0) = false := bne_eq_false_iff_eq.mpr c11
          clear c11
          have H' := Aside0.mk H
          clear H
          go_wp2_with (first | ((with_reducible refine gate_callee (f := 10) rfl ?_); refine goesL_ (some 28) rfl rfl Try.func10 (by kernel_rfl) rfl #[.string a0, .int .i64 a1] rfl (by (try simp only [List.map_toArray, List.map_cons, List.map_nil]); first | done | rfl | (simp only [List.length_drop, List.length_take]; rfl)) ?_; (with_reducible refine (seg_Cut.calls kj3 a0 a1 t224 t225 _ A10.out).mono ?_); rintro e w12 ⟨v226, rfl, ho0, hb⟩; refine ⟨_, rfl, ?_⟩; have n0_ := Aside0.mk (Kd.R_lower ho0 (below_size (by repeat (first | (with_reducible first | exact HB.out | apply below_alloc | apply pw_below_drewN | apply below_drew1) | exact HB.out)))); have n1_ := Aside0.mk (below_step (by repeat (first | (with_reducible first | exact HB.out | apply below_alloc | apply pw_below_drewN | apply below_drew1) | exact HB.out)) hb); clear HB; have HO227 := n0_; have HB := n1_; clear n0_ n1_; (try clear hb); (try clear hb2); (try clear hk); (try clear hi); (try clear ho0)) | ((with_reducible refine gate_dst (N := 9) rfl ?_); (try (refine gate_guard (by rfl) ?_; dsimp only)); refine box_event ?hg (N := 9) ?hd (cs := #[.int .i64 0, .slice none 0 0]) (t := 35) ?hr ?_; (case hd => rfl); (case hg => rfl); (case hr => first | (go_simp; done) | (go_simp; rfl) | (go_simp; simp only [w64m])); intro gb230 hg w13 hbox hb; have n0_ := Aside0.mk (Kd.R_below (by (with_reducible repeat (first | apply Kd.R_alloc | apply Kd.R_drewN | apply Kd.R_drew)); exact HO227.out) hb); have n1_ := Aside0.mk (below_step (by repeat (first | (with_reducible first | exact HB.out | apply below_alloc | apply pw_below_drewN | apply below_drew1) | exact HB.out)) hb); have n2_ := Aside0.mk (hbox); have n3_ := Aside0.mk ((by rw [hg]; exact (below_size (by repeat (first | (with_reducible first | exact HB.out | apply below_alloc | apply pw_below_drewN | apply below_drew1) | exact HB.out))) : w.heap.size ≤ gb230)); have n4_ := Aside0.mk ((by rw [hg]; exact (below_size (by repeat (first | (with_reducible first | exact HB.out | apply below_alloc | apply pw_below_drewN | apply below_drew1) | exact HB.out))) : w.heap.size ≤ gb230)); clear HO227; clear HB; have HO227 := n0_; have HB := n1_; have BK230 := n2_; have GW230 := n3_; have GE230 := n4_; clear n0_ n1_ n2_ n3_ n4_; clear hb hbox hg))
          go_loopg [44] kj3 (fun kq v44 w' => ∃ (x44_2 : Int) (x231000_2 : Int) (x231001_2 : List ByteArray) (u231001 : Value), v44 = .int .i64 x44_2 ∧ Aside0 (counterfoillaw14_SegBack.l0 kq a0 t224 l2 (l2.length : Int) x44_2 x231000_2 x231001_2 = some r) ∧ Aside0 (kq ≤ kj3) ∧ Aside0 (Kd.R Kd.string 9 w' w.heap.size (fun k_ => some k_ ≠ (u231001 : Value).ownBlock) v226 t224) ∧ Aside0 (Kd.R Kd.string 9 w' w.heap.size (fun k_ => some k_ ≠ (v226 : Value).ownBlock) u231001 x231001_2) ∧ Aside0 (w'.heap[gb230]? = some (.cells #[.int .i64 x231000_2, u231001] 35 (0, 0))) ∧ Aside0 (Below w.heap.size w w'))
          case atStart => exact ⟨(0), (0), (([] : List ByteArray)), (.slice none 0 0), (by first | rfl | (simp; done) | (simp [*]; done)), H', ⟨Nat.le_refl _⟩, ⟨by (with_reducible repeat (first | apply Kd.R_alloc | apply Kd.R_drewN | apply Kd.R_drew)); exact Kd.R_mono HO227.out (fun _ hk => (by simp [Value.ownBlock]))⟩, ⟨by first | exact Kd.R_nil _ _ _ _ _ | exact Kd.N_nil _ _ _ _ _ | exact Kd.V_nil _ _ _ _ _ | exact Kd.Q_nil _ _ _ _ _ | exact Kd.S_nil _ _ _ _ _⟩, ⟨by (with_reducible repeat (first | refine blk_drewN ?_ _ | refine blk_drew ?_ | refine blk_alloc ?_ _)); exact BK230.out⟩, ⟨by repeat (first | (with_reducible first | exact HB.out | apply below_alloc | apply pw_below_drewN | apply below_drew1 | refine below_set ?_ GE230.out) | exact HB.out)⟩⟩
          case round =>
            clear H'
            try clear c1
            try clear c2
            try clear p2
            try clear c5
            try clear c5b0
            try clear c5b1
            try clear c7
            try clear c9
            try clear c10
            try clear c11
            try clear c11b0
            try clear c11b1
            try clear p2
            obtain ⟨x44_2, x231000_2, x231001_2, u231001, rfl, HA, HK2, HO_7, HO_231001, BK230, HB⟩ := hrel
            cases gk with
            | zero => exact absurd HA.out (by simp [counterfoillaw14_SegBack.l0])
            | succ k2 =>
              have H := HA.out
              clear HA
              simp only [counterfoillaw14_SegBack.l0] at H
              by_cases c14 : x44_2 < (l2.length : Int)
              · rw [if_pos c14] at H
                have c14b0 : decide (x44_2 < (l2.length : Int)) = true := decide_eq_true c14
                clear c14
                by_cases c15 : 0 ≤ x44_2
                · rw [if_pos c15] at H
                  have c15b0 : decide (0 ≤ x44_2) = true := decide_eq_true c15
                  clear c15
                  by_cases c16 : x44_2 < (l2.length : Int)
                  · rw [if_pos c16] at H
                    have c16b0 : decide (x44_2 < (l2.length : Int)) = true := decide_eq_true c16
                    clear c16
                    replace H := Option.bind_eq_some_iff.mp H
                    obtain ⟨⟨t232, t233, t236, t237, t238⟩, A170, H⟩ := H
                    replace H : (counterfoillaw14_SegBack.l0 k2 a0 t224 l2 (l2.length : Int) (wrap64 (x44_2 + 1)) t232 t233) = some r := H
                    have A17 := Aside0.mk A170
                    clear A170
                    have H' := Aside0.mk H
                    clear H
                    have p231 : 0 ≤ (x44_2 : Int) := of_decide_eq_true (by first | (with_reducible assumption) | assumption)
                    have q231 : x44_2 < (l2.length : Int) := of_decide_eq_true (by first | (with_reducible assumption) | assumption)
                    obtain ⟨ad231, e231, hx231_0⟩ := Kd.at_string HR2.out x44_2 p231 q231
                    cases e231
                    replace hx231_0 := (HB.out.cell (World.block_lt_of_cell? w _ hx231_0)).trans hx231_0
                    replace p231 := eq_true p231
                    replace q231 := eq_true q231
                    have hcz18_0 : wr.cell? ⟨gb230, 0, none⟩ = some (.int .i64 x231000_2) := (blk_cell BK230.out 0).trans rfl
                    have hcz18_1 : wr.cell? ⟨gb230, 1, none⟩ = some (u231001) := (blk_cell BK230.out 1).trans rfl
                    have hfz18_0 := blk_frozen BK230.out 0
                    have hfz18_1 := blk_frozen BK230.out 1
                    obtain ⟨Ao19, co19, eo19⟩ := Kd.R_slice HO_231001.out
                    subst eo19
                    go_wp2_with (first | ((with_reducible refine gate_callee (f := 14) rfl ?_); refine goesL_ (some 51) rfl rfl Try.func14 (by kernel_rfl) rfl #[.agg #[.int .i64 x231000_2, .slice Ao19 x231001_2.length co19], .string (rdOf ByteArray.empty l2 x44_2)] rfl (by (try simp only [List.map_toArray, List.map_cons, List.map_nil]); first | done | rfl | (simp only [List.length_drop, List.length_take]; rfl)) ?_; (with_reducible refine (seg_Feed.calls k2 x231000_2 _ _ x231001_2 (rdOf ByteArray.empty l2 x44_2) t232 t233 t236 t237 t238 _ ?side1 ?side2 A17.out).mono ?_); (case side1 => repeat (first | exact (Kd.R_reads' HO_231001.out).2.2 | (with_reducible refine Kd.C_alloc ?_ _) | (with_reducible refine Kd.C_drewN ?_ _) | (with_reducible refine Kd.C_drew ?_))); (case side2 => exact (Kd.R_reads' HO_231001.out).2.1); rintro e w20 ⟨v234, rfl, ho0, hb⟩; refine ⟨_, rfl, ?_⟩; have n0_ := Aside0.mk (Kd.R_elder' (by (with_reducible repeat (first | apply Kd.R_alloc | apply Kd.R_drewN | apply Kd.R_drew)); exact HO_7.out) (Kd.R_base ho0) hb); have n1_ := Aside0.mk (Kd.R_elder' (by (with_reducible repeat (first | apply Kd.R_alloc | apply Kd.R_drewN | apply Kd.R_drew)); exact HO_231001.out) (Kd.R_base ho0) hb); have n2_ := Aside0.mk (Kd.R_lower (Kd.R_new' (Kd.R_new' ho0 (Kd.R_lt (by (with_reducible repeat (first | apply Kd.R_alloc | apply Kd.R_drewN | apply Kd.R_drew)); exact HO_7.out))) (Kd.R_lt (by (with_reducible repeat (first | apply Kd.R_alloc | apply Kd.R_drewN | apply Kd.R_drew)); exact HO_231001.out))) (below_size (by repeat (first | (with_reducible first | exact HB.out | apply below_alloc | apply pw_below_drewN | apply below_drew1 | refine below_set ?_ GE230.out) | exact HB.out)))); have n3_ := Aside0.mk (blk_below (g := gb230) (o := .cells #[.int .i64 x231000_2, .slice Ao19 x231001_2.length co19] 35 (0, 0)) (by (with_reducible repeat (first | refine blk_drewN ?_ _ | refine blk_drew ?_ | refine blk_alloc ?_ _)); exact BK230.out) hb); have n4_ := Aside0.mk (below_step (by repeat (first | (with_reducible first | exact HB.out | apply below_alloc | apply pw_below_drewN | apply below_drew1 | refine below_set ?_ GE230.out) | exact HB.out)) hb); clear HO_7; clear HO_231001; clear BK230; clear HB; have HO_7 := n0_; have HO_231001 := n1_; have HO235 := n2_; have BK230 := n3_; have HB := n4_; clear n0_ n1_ n2_ n3_ n4_; (try clear hb); (try clear hb2); (try clear hk); (try clear hi); (try clear ho0); have hcz21_0 : w20.cell? ⟨gb230, 0, none⟩ = some (.int .i64 x231000_2) := (blk_cell BK230.out 0).trans rfl; have hcz21_1 : w20.cell? ⟨gb230, 1, none⟩ = some (.slice Ao19 x231001_2.length co19) := (blk_cell BK230.out 1).trans rfl; have hfz21_0 := blk_frozen BK230.out 0; have hfz21_1 := blk_frozen BK230.out 1; obtain ⟨Ao22, co22, eo22⟩ := Kd.R_slice HO235.out; subst eo22))
                    go_roundg k2
                    case measure => have := HJ3.out; have := HK2.out; omega
                    case rel => exact ⟨(wrap64 (x44_2 + 1)), (t232), (t233), (.slice Ao22 t233.length co22), (by first | rfl | (simp; done) | (simp [*]; done)), H', ⟨by have := HJ3.out; have := HK2.out; omega⟩, ⟨by (with_reducible repeat (first | apply Kd.R_alloc | apply Kd.R_drewN | apply Kd.R_drew)); exact Kd.R_mono (Kd.R_far (p := ⟨gb230, 1, none⟩) (Kd.R_far (p := ⟨gb230, 0, none⟩) (Kd.R_types HO_7.out BK230.out (by decide)) (fun _ hk => hk.2) (.int .i64 t232)) (fun _ hk => hk.2) (.slice Ao22 t233.length co22)) (fun _ hk => hk.1.2)⟩, ⟨by (with_reducible repeat (first | apply Kd.R_alloc | apply Kd.R_drewN | apply Kd.R_drew)); exact Kd.R_mono (Kd.R_far (p := ⟨gb230, 1, none⟩) (Kd.R_far (p := ⟨gb230, 0, none⟩) (Kd.R_types HO235.out BK230.out (by decide)) (fun _ hk => hk.2) (.int .i64 t232)) (fun _ hk => hk.2) (.slice Ao22 t233.length co22)) (fun _ hk => hk.1.1.2)⟩, ⟨by (with_reducible repeat (first | refine blk_drewN ?_ _ | refine blk_drew ?_ | refine blk_alloc ?_ _)); refine blk_put (cs := #[.int .i64 t232, .slice Ao19 x231001_2.length co19]) ?_ 1 _ rfl; (with_reducible repeat (first | refine blk_drewN ?_ _ | refine blk_drew ?_ | refine blk_alloc ?_ _)); refine blk_put (cs := #[.int .i64 x231000_2, .slice Ao19 x231001_2.length co19]) ?_ 0 _ rfl; (with_reducible repeat (first | refine blk_drewN ?_ _ | refine blk_drew ?_ | refine blk_alloc ?_ _)); exact BK230.out⟩, ⟨by repeat (first | (with_reducible first | exact HB.out | apply below_alloc | apply pw_below_drewN | apply below_drew1 | refine below_set ?_ GE230.out) | exact HB.out)⟩⟩
                  · rw [if_neg c16] at H
                    exact absurd H (by simp)
                · rw [if_neg c15] at H
                  exact absurd H (by simp)
              · rw [if_neg c14] at H
                have c14b0 : decide (x44_2 < (l2.length : Int)) = false := decide_eq_false c14
                clear c14
                have H' := Aside0.mk H
                clear H
                obtain ⟨Ao23, co23, eo23⟩ := Kd.R_slice HO_7.out
                subst eo23
                go_wp2
                go_loopg [59] k2 (fun kq v59 w' => ∃ (x59_3 : Int) (x231000_3 : Int) (x231001_3 : List ByteArray) (u231001 : Value), v59 = .int .i64 x59_3 ∧ Aside0 (counterfoillaw14_SegBack.l1 kq a0 t224 t224 (t224.length : Int) x59_3 x231000_3 x231001_3 = some r) ∧ Aside0 (kq ≤ k2) ∧ Aside0 (Kd.R Kd.string 9 w' w.heap.size (fun k_ => some k_ ≠ (u231001 : Value).ownBlock) (.slice Ao23 t224.length co23) t224) ∧ Aside0 (Kd.R Kd.string 9 w' w.heap.size (fun k_ => some k_ ≠ (u231001 : Value).ownBlock) (.slice Ao23 t224.length co23) t224) ∧ Aside0 (Kd.R Kd.string 9 w' w.heap.size (fun k_ => some k_ ≠ ((.slice Ao23 t224.length co23) : Value).ownBlock ∧ some k_ ≠ ((.slice Ao23 t224.length co23) : Value).ownBlock) u231001 x231001_3) ∧ Aside0 (w'.heap[gb230]? = some (.cells #[.int .i64 x231000_3, u231001] 35 (0, 0))) ∧ Aside0 (Below w.heap.size w w'))
                case atStart => exact ⟨(0), (x231000_2), (x231001_2), (u231001), (by first | rfl | (simp; done) | (simp [*]; done)), H', ⟨Nat.le_refl _⟩, ⟨by (with_reducible repeat (first | apply Kd.R_alloc | apply Kd.R_drewN | apply Kd.R_drew)); exact HO_7.out⟩, ⟨by (with_reducible repeat (first | apply Kd.R_alloc | apply Kd.R_drewN | apply Kd.R_drew)); exact HO_7.out⟩, ⟨by (with_reducible repeat (first | apply Kd.R_alloc | apply Kd.R_drewN | apply Kd.R_drew)); exact Kd.R_mono HO_231001.out (fun _ hk => ⟨hk, hk⟩)⟩, ⟨by (with_reducible repeat (first | refine blk_drewN ?_ _ | refine blk_drew ?_ | refine blk_alloc ?_ _)); exact BK230.out⟩, ⟨by repeat (first | (with_reducible first | exact HB.out | apply below_alloc | apply pw_below_drewN | apply below_drew1 | refine below_set ?_ GE230.out) | exact HB.out)⟩⟩
                case round =>
                  clear H'
                  try clear c1
                  try clear c2
                  try clear p2
                  try clear q2
                  try clear hx2
                  try clear c5
                  try clear c5b0
                  try clear c5b1
                  try clear p6
                  try clear c7
                  try clear c9
                  try clear c10
                  try clear c11
                  try clear c11b0
                  try clear c11b1
                  try clear c14
                  try clear c14b0
                  try clear c15
                  try clear c15b0
                  try clear c16
                  try clear c16b0
                  try clear p23
                  try clear q23
                  try clear hx23
                  try clear hcz18_0
                  try clear hcz18_1
                  try clear hcz21_0
                  try clear hcz21_1
                  try clear hfz18_0
                  try clear hfz18_1
                  try clear hfz21_0
                  try clear hfz21_1
                  try clear hx231_0
                  try clear p2
                  try clear p231
                  try clear q231
                  obtain ⟨x59_3, x231000_3, x231001_3, u231001, rfl, HA, HK3, HO_7, HO_57, HO_231001, BK230, HB⟩ := hrel
                  cases gk with
                  | zero => exact absurd HA.out (by simp [counterfoillaw14_SegBack.l1])
                  | succ k3 =>
                    have H := HA.out
                    clear HA
                    simp only [counterfoillaw14_SegBack.l1] at H
                    by_cases c24 : x59_3 < (t224.length : Int)
                    · rw [if_pos c24] at H
                      have c24b0 : decide (x59_3 < (t224.length : Int)) = true := decide_eq_true c24
                      clear c24
                      by_cases c25 : 0 ≤ x59_3
                      · rw [if_pos c25] at H
                        have c25b0 : decide (0 ≤ x59_3) = true := decide_eq_true c25
                        clear c25
                        by_cases c26 : x59_3 < (t224.length : Int)
                        · rw [if_pos c26] at H
                          have c26b0 : decide (x59_3 < (t224.length : Int)) = true := decide_eq_true c26
                          clear c26
                          replace H := Option.bind_eq_some_iff.mp H
                          obtain ⟨⟨t240, t241, t244, t245, t246⟩, A270, H⟩ := H
                          replace H : (if t246 = 0 then (if (t245 != (x59_3 == (wrap64 ((t224.length : Int) - 1)))) = true then (some false) else (if t245 = true then (if t244.toList = a0.toList then (counterfoillaw14_SegBack.l1 k3 a0 t224 t224 (t224.length : Int) (wrap64 (x59_3 + 1)) t240 t241) else (some false)) else (if t244.toList = ([] : List UInt8) then (counterfoillaw14_SegBack.l1 k3 a0 t224 t224 (t224.length : Int) (wrap64 (x59_3 + 1)) t240 t241) else (some false)))) else (some false)) = some r := H
                          have A27 := Aside0.mk A270
                          clear A270
                          by_cases c28 : t246 = 0
                          · rw [if_pos c28] at H
                            have c28b0 : (t246 == 0) = true := beq_iff_eq.mpr c28
                            have c28b1 : (t246 != 0) = false := bne_eq_false_iff_eq.mpr c28
                            clear c28
                            by_cases c29 : (t245 != (x59_3 == (wrap64 ((t224.length : Int) - 1)))) = true
                            · rw [if_pos c29] at H
                              have c29b0 : (t245 != (x59_3 == (wrap64 ((t224.length : Int) - 1)))) = true := c29
                              (try (have c29b1 : decide (t245 = (x59_3 == (wrap64 ((t224.length : Int) - 1)))) = false := by simpa using c29))
                              (try (have c29b2 : (t245 == (x59_3 == (wrap64 ((t224.length : Int) - 1)))) = false := by simpa using c29))
                              (try (have c29b3 : ¬ (t245 = (x59_3 == (wrap64 ((t224.length : Int) - 1)))) := by simpa using c29))
                              clear c29
                              obtain rfl := Option.some.inj H
                              have p239 : 0 ≤ (x59_3 : Int) := of_decide_eq_true (by first | (with_reducible assumption) | assumption)
                              have q239 : x59_3 < (t224.length : Int) := of_decide_eq_true (by first | (with_reducible assumption) | assumption)
                              obtain ⟨ad239, e239, hx239_0⟩ := Kd.at_string (Kd.R_reads' HO_57.out).2.2 x59_3 p239 q239
                              cases e239
                              replace p239 := eq_true p239
                              replace q239 := eq_true q239
                              have hcz30_0 : wr.cell? ⟨gb230, 0, none⟩ = some (.int .i64 x231000_3) := (blk_cell BK230.out 0).trans rfl
                              have hcz30_1 : wr.cell? ⟨gb230, 1, none⟩ = some (u231001) := (blk_cell BK230.out 1).trans rfl
                              have hfz30_0 := blk_frozen BK230.out 0
                              have hfz30_1 := blk_frozen BK230.out 1
                              obtain ⟨Ao31, co31, eo31⟩ := Kd.R_slice HO_231001.out
                              subst eo31
                              go_wp2_with (first | ((with_reducible refine gate_callee (f := 14) rfl ?_); refine goesL_ (some 67) rfl rfl Try.func14 (by kernel_rfl) rfl #[.agg #[.int .i64 x231000_3, .slice Ao31 x231001_3.length co31], .string (rdOf ByteArray.empty t224 x59_3)] rfl (by (try simp only [List.map_toArray, List.map_cons, List.map_nil]); first | done | rfl | (simp only [List.length_drop, List.length_take]; rfl)) ?_; (with_reducible refine (seg_Feed.calls k3 x231000_3 _ _ x231001_3 (rdOf ByteArray.empty t224 x59_3) t240 t241 t244 t245 t246 _ ?side1 ?side2 A27.out).mono ?_); (case side1 => repeat (first | exact (Kd.R_reads' HO_231001.out).2.2 | (with_reducible refine Kd.C_alloc ?_ _) | (with_reducible refine Kd.C_drewN ?_ _) | (with_reducible refine Kd.C_drew ?_))); (case side2 => exact (Kd.R_reads' HO_231001.out).2.1); rintro e w32 ⟨v242, rfl, ho0, hb⟩; refine ⟨_, rfl, ?_⟩; have n0_ := Aside0.mk (Kd.R_elder' (by (with_reducible repeat (first | apply Kd.R_alloc | apply Kd.R_drewN | apply Kd.R_drew)); exact HO_7.out) (Kd.R_base ho0) hb); have n1_ := Aside0.mk (Kd.R_elder' (by (with_reducible repeat (first | apply Kd.R_alloc | apply Kd.R_drewN | apply Kd.R_drew)); exact HO_57.out) (Kd.R_base ho0) hb); have n2_ := Aside0.mk (Kd.R_elder' (by (with_reducible repeat (first | apply Kd.R_alloc | apply Kd.R_drewN | apply Kd.R_drew)); exact HO_231001.out) (Kd.R_base ho0) hb); have n3_ := Aside0.mk (Kd.R_lower (Kd.R_new' (Kd.R_new' (Kd.R_new' ho0 (Kd.R_lt (by (with_reducible repeat (first | apply Kd.R_alloc | apply Kd.R_drewN | apply Kd.R_drew)); exact HO_7.out))) (Kd.R_lt (by (with_reducible repeat (first | apply Kd.R_alloc | apply Kd.R_drewN | apply Kd.R_drew)); exact HO_57.out))) (Kd.R_lt (by (with_reducible repeat (first | apply Kd.R_alloc | apply Kd.R_drewN | apply Kd.R_drew)); exact HO_231001.out))) (below_size (by repeat (first | (with_reducible first | exact HB.out | apply below_alloc | apply pw_below_drewN | apply below_drew1 | refine below_set ?_ GE230.out) | exact HB.out)))); have n4_ := Aside0.mk (blk_below (g := gb230) (o := .cells #[.int .i64 x231000_3, .slice Ao31 x231001_3.length co31] 35 (0, 0)) (by (with_reducible repeat (first | refine blk_drewN ?_ _ | refine blk_drew ?_ | refine blk_alloc ?_ _)); exact BK230.out) hb); have n5_ := Aside0.mk (below_step (by repeat (first | (with_reducible first | exact HB.out | apply below_alloc | apply pw_below_drewN | apply below_drew1 | refine below_set ?_ GE230.out) | exact HB.out)) hb); clear HO_7; clear HO_57; clear HO_231001; clear BK230; clear HB; have HO_7 := n0_; have HO_57 := n1_; have HO_231001 := n2_; have HO243 := n3_; have BK230 := n4_; have HB := n5_; clear n0_ n1_ n2_ n3_ n4_ n5_; (try clear hb); (try clear hb2); (try clear hk); (try clear hi); (try clear ho0); have hcz33_0 : w32.cell? ⟨gb230, 0, none⟩ = some (.int .i64 x231000_3) := (blk_cell BK230.out 0).trans rfl; have hcz33_1 : w32.cell? ⟨gb230, 1, none⟩ = some (.slice Ao31 x231001_3.length co31) := (blk_cell BK230.out 1).trans rfl; have hfz33_0 := blk_frozen BK230.out 0; have hfz33_1 := blk_frozen BK230.out 1; obtain ⟨Ao34, co34, eo34⟩ := Kd.R_slice HO243.out; subst eo34))
                              go_ret
                              exact ⟨by first | rfl | (simp [errW_none, errW_some] <;> rfl) | (simp [*, errW_none, errW_some] <;> rfl), by repeat (first | (with_reducible first | exact HB.out | apply below_alloc | apply pw_below_drewN | apply below_drew1 | refine below_set ?_ GE230.out) | exact HB.out)⟩
                            · rw [if_neg c29] at H
                              have c29b0 : (t245 != (x59_3 == (wrap64 ((t224.length : Int) - 1)))) = false := by simpa using c29
                              (try (have c29b1 : decide (t245 = (x59_3 == (wrap64 ((t224.length : Int) - 1)))) = true := by simpa using c29))
                              (try (have c29b2 : (t245 == (x59_3 == (wrap64 ((t224.length : Int) - 1)))) = true := by simpa using c29))
                              clear c29
                              by_cases c35 : t245 = true
                              · subst c35
                                have H1 : (if t244.toList = a0.toList then (counterfoillaw14_SegBack.l1 k3 a0 t224 t224 (t224.length : Int) (wrap64 (x59_3 + 1)) t240 t241) else (some false)) = some r := by rw [if_pos rfl] at H; exact H
                                clear H
                                have H := H1
                                clear H1
                                by_cases c36 : t244.toList = a0.toList
                                · rw [if_pos c36] at H
                                  have c36b0 : (t244.toList == a0.toList) = true := beq_iff_eq.mpr c36
                                  have c36b1 : (t244.toList != a0.toList) = false := bne_eq_false_iff_eq.mpr c36
                                  clear c36
                                  have H' := Aside0.mk H
                                  clear H
                                  have p239 : 0 ≤ (x59_3 : Int) := of_decide_eq_true (by first | (with_reducible assumption) | assumption)
                                  have q239 : x59_3 < (t224.length : Int) := of_decide_eq_true (by first | (with_reducible assumption) | assumption)
                                  obtain ⟨ad239, e239, hx239_0⟩ := Kd.at_string (Kd.R_reads' HO_57.out).2.2 x59_3 p239 q239
                                  cases e239
                                  replace p239 := eq_true p239
                                  replace q239 := eq_true q239
                                  have hcz37_0 : wr.cell? ⟨gb230, 0, none⟩ = some (.int .i64 x231000_3) := (blk_cell BK230.out 0).trans rfl
                                  have hcz37_1 : wr.cell? ⟨gb230, 1, none⟩ = some (u231001) := (blk_cell BK230.out 1).trans rfl
                                  have hfz37_0 := blk_frozen BK230.out 0
                                  have hfz37_1 := blk_frozen BK230.out 1
                                  obtain ⟨Ao38, co38, eo38⟩ := Kd.R_slice HO_231001.out
                                  subst eo38
                                  go_wp2_with (first | ((with_reducible refine gate_callee (f := 14) rfl ?_); refine goesL_ (some 67) rfl rfl Try.func14 (by kernel_rfl) rfl #[.agg #[.int .i64 x231000_3, .slice Ao38 x231001_3.length co38], .string (rdOf ByteArray.empty t224 x59_3)] rfl (by (try simp only [List.map_toArray, List.map_cons, List.map_nil]); first | done | rfl | (simp only [List.length_drop, List.length_take]; rfl)) ?_; (with_reducible refine (seg_Feed.calls k3 x231000_3 _ _ x231001_3 (rdOf ByteArray.empty t224 x59_3) t240 t241 t244 true t246 _ ?side1 ?side2 A27.out).mono ?_); (case side1 => repeat (first | exact (Kd.R_reads' HO_231001.out).2.2 | (with_reducible refine Kd.C_alloc ?_ _) | (with_reducible refine Kd.C_drewN ?_ _) | (with_reducible refine Kd.C_drew ?_))); (case side2 => exact (Kd.R_reads' HO_231001.out).2.1); rintro e w39 ⟨v242, rfl, ho0, hb⟩; refine ⟨_, rfl, ?_⟩; have n0_ := Aside0.mk (Kd.R_elder' (by (with_reducible repeat (first | apply Kd.R_alloc | apply Kd.R_drewN | apply Kd.R_drew)); exact HO_7.out) (Kd.R_base ho0) hb); have n1_ := Aside0.mk (Kd.R_elder' (by (with_reducible repeat (first | apply Kd.R_alloc | apply Kd.R_drewN | apply Kd.R_drew)); exact HO_57.out) (Kd.R_base ho0) hb); have n2_ := Aside0.mk (Kd.R_elder' (by (with_reducible repeat (first | apply Kd.R_alloc | apply Kd.R_drewN | apply Kd.R_drew)); exact HO_231001.out) (Kd.R_base ho0) hb); have n3_ := Aside0.mk (Kd.R_lower (Kd.R_new' (Kd.R_new' (Kd.R_new' ho0 (Kd.R_lt (by (with_reducible repeat (first | apply Kd.R_alloc | apply Kd.R_drewN | apply Kd.R_drew)); exact HO_7.out))) (Kd.R_lt (by (with_reducible repeat (first | apply Kd.R_alloc | apply Kd.R_drewN | apply Kd.R_drew)); exact HO_57.out))) (Kd.R_lt (by (with_reducible repeat (first | apply Kd.R_alloc | apply Kd.R_drewN | apply Kd.R_drew)); exact HO_231001.out))) (below_size (by repeat (first | (with_reducible first | exact HB.out | apply below_alloc | apply pw_below_drewN | apply below_drew1 | refine below_set ?_ GE230.out) | exact HB.out)))); have n4_ := Aside0.mk (blk_below (g := gb230) (o := .cells #[.int .i64 x231000_3, .slice Ao38 x231001_3.length co38] 35 (0, 0)) (by (with_reducible repeat (first | refine blk_drewN ?_ _ | refine blk_drew ?_ | refine blk_alloc ?_ _)); exact BK230.out) hb); have n5_ := Aside0.mk (below_step (by repeat (first | (with_reducible first | exact HB.out | apply below_alloc | apply pw_below_drewN | apply below_drew1 | refine below_set ?_ GE230.out) | exact HB.out)) hb); clear HO_7; clear HO_57; clear HO_231001; clear BK230; clear HB; have HO_7 := n0_; have HO_57 := n1_; have HO_231001 := n2_; have HO243 := n3_; have BK230 := n4_; have HB := n5_; clear n0_ n1_ n2_ n3_ n4_ n5_; (try clear hb); (try clear hb2); (try clear hk); (try clear hi); (try clear ho0); have hcz40_0 : w39.cell? ⟨gb230, 0, none⟩ = some (.int .i64 x231000_3) := (blk_cell BK230.out 0).trans rfl; have hcz40_1 : w39.cell? ⟨gb230, 1, none⟩ = some (.slice Ao38 x231001_3.length co38) := (blk_cell BK230.out 1).trans rfl; have hfz40_0 := blk_frozen BK230.out 0; have hfz40_1 := blk_frozen BK230.out 1; obtain ⟨Ao41, co41, eo41⟩ := Kd.R_slice HO243.out; subst eo41))
                                  go_roundg k3
                                  case measure => have := HJ3.out; have := HK2.out; have := HK3.out; omega
                                  case rel => exact ⟨(wrap64 (x59_3 + 1)), (t240), (t241), (.slice Ao41 t241.length co41), (by first | rfl | (simp; done) | (simp [*]; done)), H', ⟨by have := HJ3.out; have := HK2.out; have := HK3.out; omega⟩, ⟨by (with_reducible repeat (first | apply Kd.R_alloc | apply Kd.R_drewN | apply Kd.R_drew)); exact Kd.R_mono (Kd.R_far (p := ⟨gb230, 1, none⟩) (Kd.R_far (p := ⟨gb230, 0, none⟩) (Kd.R_types HO_7.out BK230.out (by decide)) (fun _ hk => hk.2) (.int .i64 t240)) (fun _ hk => hk.2) (.slice Ao41 t241.length co41)) (fun _ hk => hk.1.2)⟩, ⟨by (with_reducible repeat (first | apply Kd.R_alloc | apply Kd.R_drewN | apply Kd.R_drew)); exact Kd.R_mono (Kd.R_far (p := ⟨gb230, 1, none⟩) (Kd.R_far (p := ⟨gb230, 0, none⟩) (Kd.R_types HO_57.out BK230.out (by decide)) (fun _ hk => hk.2) (.int .i64 t240)) (fun _ hk => hk.2) (.slice Ao41 t241.length co41)) (fun _ hk => hk.1.2)⟩, ⟨by (with_reducible repeat (first | apply Kd.R_alloc | apply Kd.R_drewN | apply Kd.R_drew)); exact Kd.R_mono (Kd.R_far (p := ⟨gb230, 1, none⟩) (Kd.R_far (p := ⟨gb230, 0, none⟩) (Kd.R_types HO243.out BK230.out (by decide)) (fun _ hk => hk.2) (.int .i64 t240)) (fun _ hk => hk.2) (.slice Ao41 t241.length co41)) (fun _ hk => ⟨hk.1.1.1.2, hk.1.1.2⟩)⟩, ⟨by (with_reducible repeat (first | refine blk_drewN ?_ _ | refine blk_drew ?_ | refine blk_alloc ?_ _)); refine blk_put (cs := #[.int .i64 t240, .slice Ao38 x231001_3.length co38]) ?_ 1 _ rfl; (with_reducible repeat (first | refine blk_drewN ?_ _ | refine blk_drew ?_ | refine blk_alloc ?_ _)); refine blk_put (cs := #[.int .i64 x231000_3, .slice Ao38 x231001_3.length co38]) ?_ 0 _ rfl; (with_reducible repeat (first | refine blk_drewN ?_ _ | refine blk_drew ?_ | refine blk_alloc ?_ _)); exact BK230.out⟩, ⟨by repeat (first | (with_reducible first | exact HB.out | apply below_alloc | apply pw_below_drewN | apply below_drew1 | refine below_set ?_ GE230.out) | exact HB.out)⟩⟩
                                · rw [if_neg c36] at H
                                  have c36b0 : (t244.toList == a0.toList) = false := beq_eq_false_iff_ne.mpr c36
                                  have c36b1 : (t244.toList != a0.toList) = true := bne_iff_ne.mpr c36
                                  obtain rfl := Option.some.inj H
                                  have p239 : 0 ≤ (x59_3 : Int) := of_decide_eq_true (by first | (with_reducible assumption) | assumption)
                                  have q239 : x59_3 < (t224.length : Int) := of_decide_eq_true (by first | (with_reducible assumption) | assumption)
                                  obtain ⟨ad239, e239, hx239_0⟩ := Kd.at_string (Kd.R_reads' HO_57.out).2.2 x59_3 p239 q239
                                  cases e239
                                  replace p239 := eq_true p239
                                  replace q239 := eq_true q239
                                  have hcz42_0 : wr.cell? ⟨gb230, 0, none⟩ = some (.int .i64 x231000_3) := (blk_cell BK230.out 0).trans rfl
                                  have hcz42_1 : wr.cell? ⟨gb230, 1, none⟩ = some (u231001) := (blk_cell BK230.out 1).trans rfl
                                  have hfz42_0 := blk_frozen BK230.out 0
                                  have hfz42_1 := blk_frozen BK230.out 1
                                  obtain ⟨Ao43, co43, eo43⟩ := Kd.R_slice HO_231001.out
                                  subst eo43
                                  go_wp2_with (first | ((with_reducible refine gate_callee (f := 14) rfl ?_); refine goesL_ (some 67) rfl rfl Try.func14 (by kernel_rfl) rfl #[.agg #[.int .i64 x231000_3, .slice Ao43 x231001_3.length co43], .string (rdOf ByteArray.empty t224 x59_3)] rfl (by (try simp only [List.map_toArray, List.map_cons, List.map_nil]); first | done | rfl | (simp only [List.length_drop, List.length_take]; rfl)) ?_; (with_reducible refine (seg_Feed.calls k3 x231000_3 _ _ x231001_3 (rdOf ByteArray.empty t224 x59_3) t240 t241 t244 true t246 _ ?side1 ?side2 A27.out).mono ?_); (case side1 => repeat (first | exact (Kd.R_reads' HO_231001.out).2.2 | (with_reducible refine Kd.C_alloc ?_ _) | (with_reducible refine Kd.C_drewN ?_ _) | (with_reducible refine Kd.C_drew ?_))); (case side2 => exact (Kd.R_reads' HO_231001.out).2.1); rintro e w44 ⟨v242, rfl, ho0, hb⟩; refine ⟨_, rfl, ?_⟩; have n0_ := Aside0.mk (Kd.R_elder' (by (with_reducible repeat (first | apply Kd.R_alloc | apply Kd.R_drewN | apply Kd.R_drew)); exact HO_7.out) (Kd.R_base ho0) hb); have n1_ := Aside0.mk (Kd.R_elder' (by (with_reducible repeat (first | apply Kd.R_alloc | apply Kd.R_drewN | apply Kd.R_drew)); exact HO_57.out) (Kd.R_base ho0) hb); have n2_ := Aside0.mk (Kd.R_elder' (by (with_reducible repeat (first | apply Kd.R_alloc | apply Kd.R_drewN | apply Kd.R_drew)); exact HO_231001.out) (Kd.R_base ho0) hb); have n3_ := Aside0.mk (Kd.R_lower (Kd.R_new' (Kd.R_new' (Kd.R_new' ho0 (Kd.R_lt (by (with_reducible repeat (first | apply Kd.R_alloc | apply Kd.R_drewN | apply Kd.R_drew)); exact HO_7.out))) (Kd.R_lt (by (with_reducible repeat (first | apply Kd.R_alloc | apply Kd.R_drewN | apply Kd.R_drew)); exact HO_57.out))) (Kd.R_lt (by (with_reducible repeat (first | apply Kd.R_alloc | apply Kd.R_drewN | apply Kd.R_drew)); exact HO_231001.out))) (below_size (by repeat (first | (with_reducible first | exact HB.out | apply below_alloc | apply pw_below_drewN | apply below_drew1 | refine below_set ?_ GE230.out) | exact HB.out)))); have n4_ := Aside0.mk (blk_below (g := gb230) (o := .cells #[.int .i64 x231000_3, .slice Ao43 x231001_3.length co43] 35 (0, 0)) (by (with_reducible repeat (first | refine blk_drewN ?_ _ | refine blk_drew ?_ | refine blk_alloc ?_ _)); exact BK230.out) hb); have n5_ := Aside0.mk (below_step (by repeat (first | (with_reducible first | exact HB.out | apply below_alloc | apply pw_below_drewN | apply below_drew1 | refine below_set ?_ GE230.out) | exact HB.out)) hb); clear HO_7; clear HO_57; clear HO_231001; clear BK230; clear HB; have HO_7 := n0_; have HO_57 := n1_; have HO_231001 := n2_; have HO243 := n3_; have BK230 := n4_; have HB := n5_; clear n0_ n1_ n2_ n3_ n4_ n5_; (try clear hb); (try clear hb2); (try clear hk); (try clear hi); (try clear ho0); have hcz45_0 : w44.cell? ⟨gb230, 0, none⟩ = some (.int .i64 x231000_3) := (blk_cell BK230.out 0).trans rfl; have hcz45_1 : w44.cell? ⟨gb230, 1, none⟩ = some (.slice Ao43 x231001_3.length co43) := (blk_cell BK230.out 1).trans rfl; have hfz45_0 := blk_frozen BK230.out 0; have hfz45_1 := blk_frozen BK230.out 1; obtain ⟨Ao46, co46, eo46⟩ := Kd.R_slice HO243.out; subst eo46))
                                  go_ret
                                  exact ⟨by first | rfl | (simp [errW_none, errW_some] <;> rfl) | (simp [*, errW_none, errW_some] <;> rfl), by repeat (first | (with_reducible first | exact HB.out | apply below_alloc | apply pw_below_drewN | apply below_drew1 | refine below_set ?_ GE230.out) | exact HB.out)⟩
                              · replace c35 := Bool.eq_false_iff.mpr c35
                                subst c35
                                have H1 : (if t244.toList = ([] : List UInt8) then (counterfoillaw14_SegBack.l1 k3 a0 t224 t224 (t224.length : Int) (wrap64 (x59_3 + 1)) t240 t241) else (some false)) = some r := by rw [if_neg (show ¬ (false = true) by decide)] at H; exact H
                                clear H
                                have H := H1
                                clear H1
                                by_cases c47 : t244.toList = ([] : List UInt8)
                                · rw [if_pos c47] at H
                                  have c47b0 : (t244.toList == ([] : List UInt8)) = true := beq_iff_eq.mpr c47
                                  have c47b1 : (t244.toList != ([] : List UInt8)) = false := bne_eq_false_iff_eq.mpr c47
                                  clear c47
                                  have H' := Aside0.mk H
                                  clear H
                                  have p239 : 0 ≤ (x59_3 : Int) := of_decide_eq_true (by first | (with_reducible assumption) | assumption)
                                  have q239 : x59_3 < (t224.length : Int) := of_decide_eq_true (by first | (with_reducible assumption) | assumption)
                                  obtain ⟨ad239, e239, hx239_0⟩ := Kd.at_string (Kd.R_reads' HO_57.out).2.2 x59_3 p239 q239
                                  cases e239
                                  replace p239 := eq_true p239
                                  replace q239 := eq_true q239
                                  have hcz48_0 : wr.cell? ⟨gb230, 0, none⟩ = some (.int .i64 x231000_3) := (blk_cell BK230.out 0).trans rfl
                                  have hcz48_1 : wr.cell? ⟨gb230, 1, none⟩ = some (u231001) := (blk_cell BK230.out 1).trans rfl
                                  have hfz48_0 := blk_frozen BK230.out 0
                                  have hfz48_1 := blk_frozen BK230.out 1
                                  obtain ⟨Ao49, co49, eo49⟩ := Kd.R_slice HO_231001.out
                                  subst eo49
                                  go_wp2_with (first | ((with_reducible refine gate_callee (f := 14) rfl ?_); refine goesL_ (some 67) rfl rfl Try.func14 (by kernel_rfl) rfl #[.agg #[.int .i64 x231000_3, .slice Ao49 x231001_3.length co49], .string (rdOf ByteArray.empty t224 x59_3)] rfl (by (try simp only [List.map_toArray, List.map_cons, List.map_nil]); first | done | rfl | (simp only [List.length_drop, List.length_take]; rfl)) ?_; (with_reducible refine (seg_Feed.calls k3 x231000_3 _ _ x231001_3 (rdOf ByteArray.empty t224 x59_3) t240 t241 t244 false t246 _ ?side1 ?side2 A27.out).mono ?_); (case side1 => repeat (first | exact (Kd.R_reads' HO_231001.out).2.2 | (with_reducible refine Kd.C_alloc ?_ _) | (with_reducible refine Kd.C_drewN ?_ _) | (with_reducible refine Kd.C_drew ?_))); (case side2 => exact (Kd.R_reads' HO_231001.out).2.1); rintro e w50 ⟨v242, rfl, ho0, hb⟩; refine ⟨_, rfl, ?_⟩; have n0_ := Aside0.mk (Kd.R_elder' (by (with_reducible repeat (first | apply Kd.R_alloc | apply Kd.R_drewN | apply Kd.R_drew)); exact HO_7.out) (Kd.R_base ho0) hb); have n1_ := Aside0.mk (Kd.R_elder' (by (with_reducible repeat (first | apply Kd.R_alloc | apply Kd.R_drewN | apply Kd.R_drew)); exact HO_57.out) (Kd.R_base ho0) hb); have n2_ := Aside0.mk (Kd.R_elder' (by (with_reducible repeat (first | apply Kd.R_alloc | apply Kd.R_drewN | apply Kd.R_drew)); exact HO_231001.out) (Kd.R_base ho0) hb); have n3_ := Aside0.mk (Kd.R_lower (Kd.R_new' (Kd.R_new' (Kd.R_new' ho0 (Kd.R_lt (by (with_reducible repeat (first | apply Kd.R_alloc | apply Kd.R_drewN | apply Kd.R_drew)); exact HO_7.out))) (Kd.R_lt (by (with_reducible repeat (first | apply Kd.R_alloc | apply Kd.R_drewN | apply Kd.R_drew)); exact HO_57.out))) (Kd.R_lt (by (with_reducible repeat (first | apply Kd.R_alloc | apply Kd.R_drewN | apply Kd.R_drew)); exact HO_231001.out))) (below_size (by repeat (first | (with_reducible first | exact HB.out | apply below_alloc | apply pw_below_drewN | apply below_drew1 | refine below_set ?_ GE230.out) | exact HB.out)))); have n4_ := Aside0.mk (blk_below (g := gb230) (o := .cells #[.int .i64 x231000_3, .slice Ao49 x231001_3.length co49] 35 (0, 0)) (by (with_reducible repeat (first | refine blk_drewN ?_ _ | refine blk_drew ?_ | refine blk_alloc ?_ _)); exact BK230.out) hb); have n5_ := Aside0.mk (below_step (by repeat (first | (with_reducible first | exact HB.out | apply below_alloc | apply pw_below_drewN | apply below_drew1 | refine below_set ?_ GE230.out) | exact HB.out)) hb); clear HO_7; clear HO_57; clear HO_231001; clear BK230; clear HB; have HO_7 := n0_; have HO_57 := n1_; have HO_231001 := n2_; have HO243 := n3_; have BK230 := n4_; have HB := n5_; clear n0_ n1_ n2_ n3_ n4_ n5_; (try clear hb); (try clear hb2); (try clear hk); (try clear hi); (try clear ho0); have hcz51_0 : w50.cell? ⟨gb230, 0, none⟩ = some (.int .i64 x231000_3) := (blk_cell BK230.out 0).trans rfl; have hcz51_1 : w50.cell? ⟨gb230, 1, none⟩ = some (.slice Ao49 x231001_3.length co49) := (blk_cell BK230.out 1).trans rfl; have hfz51_0 := blk_frozen BK230.out 0; have hfz51_1 := blk_frozen BK230.out 1; obtain ⟨Ao52, co52, eo52⟩ := Kd.R_slice HO243.out; subst eo52))
                                  go_roundg k3
                                  case measure => have := HJ3.out; have := HK2.out; have := HK3.out; omega
                                  case rel => exact ⟨(wrap64 (x59_3 + 1)), (t240), (t241), (.slice Ao52 t241.length co52), (by first | rfl | (simp; done) | (simp [*]; done)), H', ⟨by have := HJ3.out; have := HK2.out; have := HK3.out; omega⟩, ⟨by (with_reducible repeat (first | apply Kd.R_alloc | apply Kd.R_drewN | apply Kd.R_drew)); exact Kd.R_mono (Kd.R_far (p := ⟨gb230, 1, none⟩) (Kd.R_far (p := ⟨gb230, 0, none⟩) (Kd.R_types HO_7.out BK230.out (by decide)) (fun _ hk => hk.2) (.int .i64 t240)) (fun _ hk => hk.2) (.slice Ao52 t241.length co52)) (fun _ hk => hk.1.2)⟩, ⟨by (with_reducible repeat (first | apply Kd.R_alloc | apply Kd.R_drewN | apply Kd.R_drew)); exact Kd.R_mono (Kd.R_far (p := ⟨gb230, 1, none⟩) (Kd.R_far (p := ⟨gb230, 0, none⟩) (Kd.R_types HO_57.out BK230.out (by decide)) (fun _ hk => hk.2) (.int .i64 t240)) (fun _ hk => hk.2) (.slice Ao52 t241.length co52)) (fun _ hk => hk.1.2)⟩, ⟨by (with_reducible repeat (first | apply Kd.R_alloc | apply Kd.R_drewN | apply Kd.R_drew)); exact Kd.R_mono (Kd.R_far (p := ⟨gb230, 1, none⟩) (Kd.R_far (p := ⟨gb230, 0, none⟩) (Kd.R_types HO243.out BK230.out (by decide)) (fun _ hk => hk.2) (.int .i64 t240)) (fun _ hk => hk.2) (.slice Ao52 t241.length co52)) (fun _ hk => ⟨hk.1.1.1.2, hk.1.1.2⟩)⟩, ⟨by (with_reducible repeat (first | refine blk_drewN ?_ _ | refine blk_drew ?_ | refine blk_alloc ?_ _)); refine blk_put (cs := #[.int .i64 t240, .slice Ao49 x231001_3.length co49]) ?_ 1 _ rfl; (with_reducible repeat (first | refine blk_drewN ?_ _ | refine blk_drew ?_ | refine blk_alloc ?_ _)); refine blk_put (cs := #[.int .i64 x231000_3, .slice Ao49 x231001_3.length co49]) ?_ 0 _ rfl; (with_reducible repeat (first | refine blk_drewN ?_ _ | refine blk_drew ?_ | refine blk_alloc ?_ _)); exact BK230.out⟩, ⟨by repeat (first | (with_reducible first | exact HB.out | apply below_alloc | apply pw_below_drewN | apply below_drew1 | refine below_set ?_ GE230.out) | exact HB.out)⟩⟩
                                · rw [if_neg c47] at H
                                  have c47b0 : (t244.toList == ([] : List UInt8)) = false := beq_eq_false_iff_ne.mpr c47
                                  have c47b1 : (t244.toList != ([] : List UInt8)) = true := bne_iff_ne.mpr c47
                                  obtain rfl := Option.some.inj H
                                  have p239 : 0 ≤ (x59_3 : Int) := of_decide_eq_true (by first | (with_reducible assumption) | assumption)
                                  have q239 : x59_3 < (t224.length : Int) := of_decide_eq_true (by first | (with_reducible assumption) | assumption)
                                  obtain ⟨ad239, e239, hx239_0⟩ := Kd.at_string (Kd.R_reads' HO_57.out).2.2 x59_3 p239 q239
                                  cases e239
                                  replace p239 := eq_true p239
                                  replace q239 := eq_true q239
                                  have hcz53_0 : wr.cell? ⟨gb230, 0, none⟩ = some (.int .i64 x231000_3) := (blk_cell BK230.out 0).trans rfl
                                  have hcz53_1 : wr.cell? ⟨gb230, 1, none⟩ = some (u231001) := (blk_cell BK230.out 1).trans rfl
                                  have hfz53_0 := blk_frozen BK230.out 0
                                  have hfz53_1 := blk_frozen BK230.out 1
                                  obtain ⟨Ao54, co54, eo54⟩ := Kd.R_slice HO_231001.out
                                  subst eo54
                                  go_wp2_with (first | ((with_reducible refine gate_callee (f := 14) rfl ?_); refine goesL_ (some 67) rfl rfl Try.func14 (by kernel_rfl) rfl #[.agg #[.int .i64 x231000_3, .slice Ao54 x231001_3.length co54], .string (rdOf ByteArray.empty t224 x59_3)] rfl (by (try simp only [List.map_toArray, List.map_cons, List.map_nil]); first | done | rfl | (simp only [List.length_drop, List.length_take]; rfl)) ?_; (with_reducible refine (seg_Feed.calls k3 x231000_3 _ _ x231001_3 (rdOf ByteArray.empty t224 x59_3) t240 t241 t244 false t246 _ ?side1 ?side2 A27.out).mono ?_); (case side1 => repeat (first | exact (Kd.R_reads' HO_231001.out).2.2 | (with_reducible refine Kd.C_alloc ?_ _) | (with_reducible refine Kd.C_drewN ?_ _) | (with_reducible refine Kd.C_drew ?_))); (case side2 => exact (Kd.R_reads' HO_231001.out).2.1); rintro e w55 ⟨v242, rfl, ho0, hb⟩; refine ⟨_, rfl, ?_⟩; have n0_ := Aside0.mk (Kd.R_elder' (by (with_reducible repeat (first | apply Kd.R_alloc | apply Kd.R_drewN | apply Kd.R_drew)); exact HO_7.out) (Kd.R_base ho0) hb); have n1_ := Aside0.mk (Kd.R_elder' (by (with_reducible repeat (first | apply Kd.R_alloc | apply Kd.R_drewN | apply Kd.R_drew)); exact HO_57.out) (Kd.R_base ho0) hb); have n2_ := Aside0.mk (Kd.R_elder' (by (with_reducible repeat (first | apply Kd.R_alloc | apply Kd.R_drewN | apply Kd.R_drew)); exact HO_231001.out) (Kd.R_base ho0) hb); have n3_ := Aside0.mk (Kd.R_lower (Kd.R_new' (Kd.R_new' (Kd.R_new' ho0 (Kd.R_lt (by (with_reducible repeat (first | apply Kd.R_alloc | apply Kd.R_drewN | apply Kd.R_drew)); exact HO_7.out))) (Kd.R_lt (by (with_reducible repeat (first | apply Kd.R_alloc | apply Kd.R_drewN | apply Kd.R_drew)); exact HO_57.out))) (Kd.R_lt (by (with_reducible repeat (first | apply Kd.R_alloc | apply Kd.R_drewN | apply Kd.R_drew)); exact HO_231001.out))) (below_size (by repeat (first | (with_reducible first | exact HB.out | apply below_alloc | apply pw_below_drewN | apply below_drew1 | refine below_set ?_ GE230.out) | exact HB.out)))); have n4_ := Aside0.mk (blk_below (g := gb230) (o := .cells #[.int .i64 x231000_3, .slice Ao54 x231001_3.length co54] 35 (0, 0)) (by (with_reducible repeat (first | refine blk_drewN ?_ _ | refine blk_drew ?_ | refine blk_alloc ?_ _)); exact BK230.out) hb); have n5_ := Aside0.mk (below_step (by repeat (first | (with_reducible first | exact HB.out | apply below_alloc | apply pw_below_drewN | apply below_drew1 | refine below_set ?_ GE230.out) | exact HB.out)) hb); clear HO_7; clear HO_57; clear HO_231001; clear BK230; clear HB; have HO_7 := n0_; have HO_57 := n1_; have HO_231001 := n2_; have HO243 := n3_; have BK230 := n4_; have HB := n5_; clear n0_ n1_ n2_ n3_ n4_ n5_; (try clear hb); (try clear hb2); (try clear hk); (try clear hi); (try clear ho0); have hcz56_0 : w55.cell? ⟨gb230, 0, none⟩ = some (.int .i64 x231000_3) := (blk_cell BK230.out 0).trans rfl; have hcz56_1 : w55.cell? ⟨gb230, 1, none⟩ = some (.slice Ao54 x231001_3.length co54) := (blk_cell BK230.out 1).trans rfl; have hfz56_0 := blk_frozen BK230.out 0; have hfz56_1 := blk_frozen BK230.out 1; obtain ⟨Ao57, co57, eo57⟩ := Kd.R_slice HO243.out; subst eo57))
                                  go_ret
                                  exact ⟨by first | rfl | (simp [errW_none, errW_some] <;> rfl) | (simp [*, errW_none, errW_some] <;> rfl), by repeat (first | (with_reducible first | exact HB.out | apply below_alloc | apply pw_below_drewN | apply below_drew1 | refine below_set ?_ GE230.out) | exact HB.out)⟩
                          · rw [if_neg c28] at H
                            have c28b0 : (t246 == 0) = false := beq_eq_false_iff_ne.mpr c28
                            have c28b1 : (t246 != 0) = true := bne_iff_ne.mpr c28
                            obtain rfl := Option.some.inj H
                            have p239 : 0 ≤ (x59_3 : Int) := of_decide_eq_true (by first | (with_reducible assumption) | assumption)
                            have q239 : x59_3 < (t224.length : Int) := of_decide_eq_true (by first | (with_reducible assumption) | assumption)
                            obtain ⟨ad239, e239, hx239_0⟩ := Kd.at_string (Kd.R_reads' HO_57.out).2.2 x59_3 p239 q239
                            cases e239
                            replace p239 := eq_true p239
                            replace q239 := eq_true q239
                            have hcz58_0 : wr.cell? ⟨gb230, 0, none⟩ = some (.int .i64 x231000_3) := (blk_cell BK230.out 0).trans rfl
                            have hcz58_1 : wr.cell? ⟨gb230, 1, none⟩ = some (u231001) := (blk_cell BK230.out 1).trans rfl
                            have hfz58_0 := blk_frozen BK230.out 0
                            have hfz58_1 := blk_frozen BK230.out 1
                            obtain ⟨Ao59, co59, eo59⟩ := Kd.R_slice HO_231001.out
                            subst eo59
                            go_wp2_with (first | ((with_reducible refine gate_callee (f := 14) rfl ?_); refine goesL_ (some 67) rfl rfl Try.func14 (by kernel_rfl) rfl #[.agg #[.int .i64 x231000_3, .slice Ao59 x231001_3.length co59], .string (rdOf ByteArray.empty t224 x59_3)] rfl (by (try simp only [List.map_toArray, List.map_cons, List.map_nil]); first | done | rfl | (simp only [List.length_drop, List.length_take]; rfl)) ?_; (with_reducible refine (seg_Feed.calls k3 x231000_3 _ _ x231001_3 (rdOf ByteArray.empty t224 x59_3) t240 t241 t244 t245 t246 _ ?side1 ?side2 A27.out).mono ?_); (case side1 => repeat (first | exact (Kd.R_reads' HO_231001.out).2.2 | (with_reducible refine Kd.C_alloc ?_ _) | (with_reducible refine Kd.C_drewN ?_ _) | (with_reducible refine Kd.C_drew ?_))); (case side2 => exact (Kd.R_reads' HO_231001.out).2.1); rintro e w60 ⟨v242, rfl, ho0, hb⟩; refine ⟨_, rfl, ?_⟩; have n0_ := Aside0.mk (Kd.R_elder' (by (with_reducible repeat (first | apply Kd.R_alloc | apply Kd.R_drewN | apply Kd.R_drew)); exact HO_7.out) (Kd.R_base ho0) hb); have n1_ := Aside0.mk (Kd.R_elder' (by (with_reducible repeat (first | apply Kd.R_alloc | apply Kd.R_drewN | apply Kd.R_drew)); exact HO_57.out) (Kd.R_base ho0) hb); have n2_ := Aside0.mk (Kd.R_elder' (by (with_reducible repeat (first | apply Kd.R_alloc | apply Kd.R_drewN | apply Kd.R_drew)); exact HO_231001.out) (Kd.R_base ho0) hb); have n3_ := Aside0.mk (Kd.R_lower (Kd.R_new' (Kd.R_new' (Kd.R_new' ho0 (Kd.R_lt (by (with_reducible repeat (first | apply Kd.R_alloc | apply Kd.R_drewN | apply Kd.R_drew)); exact HO_7.out))) (Kd.R_lt (by (with_reducible repeat (first | apply Kd.R_alloc | apply Kd.R_drewN | apply Kd.R_drew)); exact HO_57.out))) (Kd.R_lt (by (with_reducible repeat (first | apply Kd.R_alloc | apply Kd.R_drewN | apply Kd.R_drew)); exact HO_231001.out))) (below_size (by repeat (first | (with_reducible first | exact HB.out | apply below_alloc | apply pw_below_drewN | apply below_drew1 | refine below_set ?_ GE230.out) | exact HB.out)))); have n4_ := Aside0.mk (blk_below (g := gb230) (o := .cells #[.int .i64 x231000_3, .slice Ao59 x231001_3.length co59] 35 (0, 0)) (by (with_reducible repeat (first | refine blk_drewN ?_ _ | refine blk_drew ?_ | refine blk_alloc ?_ _)); exact BK230.out) hb); have n5_ := Aside0.mk (below_step (by repeat (first | (with_reducible first | exact HB.out | apply below_alloc | apply pw_below_drewN | apply below_drew1 | refine below_set ?_ GE230.out) | exact HB.out)) hb); clear HO_7; clear HO_57; clear HO_231001; clear BK230; clear HB; have HO_7 := n0_; have HO_57 := n1_; have HO_231001 := n2_; have HO243 := n3_; have BK230 := n4_; have HB := n5_; clear n0_ n1_ n2_ n3_ n4_ n5_; (try clear hb); (try clear hb2); (try clear hk); (try clear hi); (try clear ho0); have hcz61_0 : w60.cell? ⟨gb230, 0, none⟩ = some (.int .i64 x231000_3) := (blk_cell BK230.out 0).trans rfl; have hcz61_1 : w60.cell? ⟨gb230, 1, none⟩ = some (.slice Ao59 x231001_3.length co59) := (blk_cell BK230.out 1).trans rfl; have hfz61_0 := blk_frozen BK230.out 0; have hfz61_1 := blk_frozen BK230.out 1; obtain ⟨Ao62, co62, eo62⟩ := Kd.R_slice HO243.out; subst eo62))
                            go_ret
                            exact ⟨by first | rfl | (simp [errW_none, errW_some] <;> rfl) | (simp [*, errW_none, errW_some] <;> rfl), by repeat (first | (with_reducible first | exact HB.out | apply below_alloc | apply pw_below_drewN | apply below_drew1 | refine below_set ?_ GE230.out) | exact HB.out)⟩
                        · rw [if_neg c26] at H
                          exact absurd H (by simp)
                      · rw [if_neg c25] at H
                        exact absurd H (by simp)
                    · rw [if_neg c24] at H
                      have c24b0 : decide (x59_3 < (t224.length : Int)) = false := decide_eq_false c24
                      clear c24
                      by_cases c63 : x231000_3 = 0
                      · rw [if_pos c63] at H
                        have c63b0 : (x231000_3 == 0) = true := beq_iff_eq.mpr c63
                        have c63b1 : (x231000_3 != 0) = false := bne_eq_false_iff_eq.mpr c63
                        clear c63
                        by_cases c64 : (x231001_3.length : Int) = 0
                        · rw [if_pos c64] at H
                          have c64b0 : ((x231001_3.length : Int) == 0) = true := beq_iff_eq.mpr c64
                          have c64b1 : ((x231001_3.length : Int) != 0) = false := bne_eq_false_iff_eq.mpr c64
                          clear c64
                          replace H := Option.bind_eq_some_iff.mp H
                          obtain ⟨t247, A650, H⟩ := H
                          replace H : (some t247) = some r := H
                          have A65 := Aside0.mk A650
                          clear A650
                          obtain rfl := Option.some.inj H
                          have hcz66_0 : wr.cell? ⟨gb230, 0, none⟩ = some (.int .i64 x231000_3) := (blk_cell BK230.out 0).trans rfl
                          have hcz66_1 : wr.cell? ⟨gb230, 1, none⟩ = some (u231001) := (blk_cell BK230.out 1).trans rfl
                          have hfz66_0 := blk_frozen BK230.out 0
                          have hfz66_1 := blk_frozen BK230.out 1
                          obtain ⟨Ao67, co67, eo67⟩ := Kd.R_slice HO_231001.out
                          subst eo67
                          go_wp2_with (first | (go_at_call 9; (with_reducible refine (counterfoillaw14_awake.calls k3  t247 _ A65.out).mono ?_); rintro e w68 ⟨rfl, hb⟩; have n0_ := Aside0.mk (Kd.R_below (by (with_reducible repeat (first | apply Kd.R_alloc | apply Kd.R_drewN | apply Kd.R_drew)); exact HO_7.out) hb); have n1_ := Aside0.mk (Kd.R_below (by (with_reducible repeat (first | apply Kd.R_alloc | apply Kd.R_drewN | apply Kd.R_drew)); exact HO_57.out) hb); have n2_ := Aside0.mk (Kd.R_below (by (with_reducible repeat (first | apply Kd.R_alloc | apply Kd.R_drewN | apply Kd.R_drew)); exact HO_231001.out) hb); have n3_ := Aside0.mk (blk_below (g := gb230) (o := .cells #[.int .i64 x231000_3, .slice Ao67 x231001_3.length co67] 35 (0, 0)) (by (with_reducible repeat (first | refine blk_drewN ?_ _ | refine blk_drew ?_ | refine blk_alloc ?_ _)); exact BK230.out) hb); have n4_ := Aside0.mk (below_step (by repeat (first | (with_reducible first | exact HB.out | apply below_alloc | apply pw_below_drewN | apply below_drew1 | refine below_set ?_ GE230.out) | exact HB.out)) hb); clear HO_7; clear HO_57; clear HO_231001; clear BK230; clear HB; have HO_7 := n0_; have HO_57 := n1_; have HO_231001 := n2_; have BK230 := n3_; have HB := n4_; clear n0_ n1_ n2_ n3_ n4_; (try clear hb); (try clear hb2); (try clear hk); (try clear hi)))
                          go_ret
                          exact ⟨by first | rfl | (simp [errW_none, errW_some] <;> rfl) | (simp [*, errW_none, errW_some] <;> rfl), by repeat (first | (with_reducible first | exact HB.out | apply below_alloc | apply pw_below_drewN | apply below_drew1 | refine below_set ?_ GE230.out) | exact HB.out)⟩
                        · rw [if_neg c64] at H
                          have c64b0 : ((x231001_3.length : Int) == 0) = false := beq_eq_false_iff_ne.mpr c64
                          have c64b1 : ((x231001_3.length : Int) != 0) = true := bne_iff_ne.mpr c64
                          have c64b2 : ¬ (x231001_3 = []) := fun h_ => c64 (by rw [h_]; rfl)
                          obtain rfl := Option.some.inj H
                          have hcz69_0 : wr.cell? ⟨gb230, 0, none⟩ = some (.int .i64 x231000_3) := (blk_cell BK230.out 0).trans rfl
                          have hcz69_1 : wr.cell? ⟨gb230, 1, none⟩ = some (u231001) := (blk_cell BK230.out 1).trans rfl
                          have hfz69_0 := blk_frozen BK230.out 0
                          have hfz69_1 := blk_frozen BK230.out 1
                          obtain ⟨Ao70, co70, eo70⟩ := Kd.R_slice HO_231001.out
                          subst eo70
                          go_wp2
                          go_ret
                          exact ⟨by first | rfl | (simp [errW_none, errW_some] <;> rfl) | (simp [*, errW_none, errW_some] <;> rfl), by repeat (first | (with_reducible first | exact HB.out | apply below_alloc | apply pw_below_drewN | apply below_drew1 | refine below_set ?_ GE230.out) | exact HB.out)⟩
                      · rw [if_neg c63] at H
                        have c63b0 : (x231000_3 == 0) = false := beq_eq_false_iff_ne.mpr c63
                        have c63b1 : (x231000_3 != 0) = true := bne_iff_ne.mpr c63
                        obtain rfl := Option.some.inj H
                        have hcz71_0 : wr.cell? ⟨gb230, 0, none⟩ = some (.int .i64 x231000_3) := (blk_cell BK230.out 0).trans rfl
                        have hcz71_1 : wr.cell? ⟨gb230, 1, none⟩ = some (u231001) := (blk_cell BK230.out 1).trans rfl
                        have hfz71_0 := blk_frozen BK230.out 0
                        have hfz71_1 := blk_frozen BK230.out 1
                        go_wp2
                        go_ret
                        exact ⟨by first | rfl | (simp [errW_none, errW_some] <;> rfl) | (simp [*, errW_none, errW_some] <;> rfl), by repeat (first | (with_reducible first | exact HB.out | apply below_alloc | apply pw_below_drewN | apply below_drew1 | refine below_set ?_ GE230.out) | exact HB.out)⟩
        · rw [if_neg c11] at H
          have c11b0 : (t225 == 0) = false := beq_eq_false_iff_ne.mpr c11
          have c11b1 : (t225 != 0) = true := bne_iff_ne.mpr c11
          by_cases c72 : a1 < 1
          · rw [if_pos c72] at H
            have c72b0 : decide (a1 < 1) = true := decide_eq_true c72
            clear c72
            replace H := Option.bind_eq_some_iff.mp H
            obtain ⟨t228, A730, H⟩ := H
            replace H : (some t228) = some r := H
            have A73 := Aside0.mk A730
            clear A730
            obtain rfl := Option.some.inj H
            go_wp2_with (first | ((with_reducible refine gate_callee (f := 10) rfl ?_); refine goesL_ (some 28) rfl rfl Try.func10 (by kernel_rfl) rfl #[.string a0, .int .i64 a1] rfl (by (try simp only [List.map_toArray, List.map_cons, List.map_nil]); first | done | rfl | (simp only [List.length_drop, List.length_take]; rfl)) ?_; (with_reducible refine (seg_Cut.calls kj3 a0 a1 t224 t225 _ A10.out).mono ?_); rintro e w74 ⟨v226, rfl, ho0, hb⟩; refine ⟨_, rfl, ?_⟩; have n0_ := Aside0.mk (Kd.R_lower ho0 (below_size (by repeat (first | (with_reducible first | exact HB.out | apply below_alloc | apply pw_below_drewN | apply below_drew1) | exact HB.out)))); have n1_ := Aside0.mk (below_step (by repeat (first | (with_reducible first | exact HB.out | apply below_alloc | apply pw_below_drewN | apply below_drew1) | exact HB.out)) hb); clear HB; have HO227 := n0_; have HB := n1_; clear n0_ n1_; (try clear hb); (try clear hb2); (try clear hk); (try clear hi); (try clear ho0)) | (go_at_call 9; (with_reducible refine (counterfoillaw14_awake.calls kj3  t228 _ A73.out).mono ?_); rintro e w75 ⟨rfl, hb⟩; have n0_ := Aside0.mk (Kd.R_below (by (with_reducible repeat (first | apply Kd.R_alloc | apply Kd.R_drewN | apply Kd.R_drew)); exact HO227.out) hb); have n1_ := Aside0.mk (below_step (by repeat (first | (with_reducible first | exact HB.out | apply below_alloc | apply pw_below_drewN | apply below_drew1) | exact HB.out)) hb); clear HO227; clear HB; have HO227 := n0_; have HB := n1_; clear n0_ n1_; (try clear hb); (try clear hb2); (try clear hk); (try clear hi)))
            go_ret
            exact ⟨by first | rfl | (simp [errW_none, errW_some] <;> rfl) | (simp [*, errW_none, errW_some] <;> rfl), by repeat (first | (with_reducible first | exact HB.out | apply below_alloc | apply pw_below_drewN | apply below_drew1) | exact HB.out)⟩
          · rw [if_neg c72] at H
            have c72b0 : decide (a1 < 1) = false := decide_eq_false c72
            clear c72
            by_cases c76 : a1 > 508
            · rw [if_pos c76] at H
              have c76b0 : decide (508 < a1) = true := decide_eq_true c76
              clear c76
              replace H := Option.bind_eq_some_iff.mp H
              obtain ⟨t229, A770, H⟩ := H
              replace H : (some t229) = some r := H
              have A77 := Aside0.mk A770
              clear A770
              obtain rfl := Option.some.inj H
              go_wp2_with (first | ((with_reducible refine gate_callee (f := 10) rfl ?_); refine goesL_ (some 28) rfl rfl Try.func10 (by kernel_rfl) rfl #[.string a0, .int .i64 a1] rfl (by (try simp only [List.map_toArray, List.map_cons, List.map_nil]); first | done | rfl | (simp only [List.length_drop, List.length_take]; rfl)) ?_; (with_reducible refine (seg_Cut.calls kj3 a0 a1 t224 t225 _ A10.out).mono ?_); rintro e w78 ⟨v226, rfl, ho0, hb⟩; refine ⟨_, rfl, ?_⟩; have n0_ := Aside0.mk (Kd.R_lower ho0 (below_size (by repeat (first | (with_reducible first | exact HB.out | apply below_alloc | apply pw_below_drewN | apply below_drew1) | exact HB.out)))); have n1_ := Aside0.mk (below_step (by repeat (first | (with_reducible first | exact HB.out | apply below_alloc | apply pw_below_drewN | apply below_drew1) | exact HB.out)) hb); clear HB; have HO227 := n0_; have HB := n1_; clear n0_ n1_; (try clear hb); (try clear hb2); (try clear hk); (try clear hi); (try clear ho0)) | (go_at_call 9; (with_reducible refine (counterfoillaw14_awake.calls kj3  t229 _ A77.out).mono ?_); rintro e w79 ⟨rfl, hb⟩; have n0_ := Aside0.mk (Kd.R_below (by (with_reducible repeat (first | apply Kd.R_alloc | apply Kd.R_drewN | apply Kd.R_drew)); exact HO227.out) hb); have n1_ := Aside0.mk (below_step (by repeat (first | (with_reducible first | exact HB.out | apply below_alloc | apply pw_below_drewN | apply below_drew1) | exact HB.out)) hb); clear HO227; clear HB; have HO227 := n0_; have HB := n1_; clear n0_ n1_; (try clear hb); (try clear hb2); (try clear hk); (try clear hi)))
              go_ret
              exact ⟨by first | rfl | (simp [errW_none, errW_some] <;> rfl) | (simp [*, errW_none, errW_some] <;> rfl), by repeat (first | (with_reducible first | exact HB.out | apply below_alloc | apply pw_below_drewN | apply below_drew1) | exact HB.out)⟩
            · rw [if_neg c76] at H
              have c76b0 : decide (508 < a1) = false := decide_eq_false c76
              clear c76
              obtain rfl := Option.some.inj H
              go_wp2_with (first | ((with_reducible refine gate_callee (f := 10) rfl ?_); refine goesL_ (some 28) rfl rfl Try.func10 (by kernel_rfl) rfl #[.string a0, .int .i64 a1] rfl (by (try simp only [List.map_toArray, List.map_cons, List.map_nil]); first | done | rfl | (simp only [List.length_drop, List.length_take]; rfl)) ?_; (with_reducible refine (seg_Cut.calls kj3 a0 a1 t224 t225 _ A10.out).mono ?_); rintro e w80 ⟨v226, rfl, ho0, hb⟩; refine ⟨_, rfl, ?_⟩; have n0_ := Aside0.mk (Kd.R_lower ho0 (below_size (by repeat (first | (with_reducible first | exact HB.out | apply below_alloc | apply pw_below_drewN | apply below_drew1) | exact HB.out)))); have n1_ := Aside0.mk (below_step (by repeat (first | (with_reducible first | exact HB.out | apply below_alloc | apply pw_below_drewN | apply below_drew1) | exact HB.out)) hb); clear HB; have HO227 := n0_; have HB := n1_; clear n0_ n1_; (try clear hb); (try clear hb2); (try clear hk); (try clear hi); (try clear ho0)))
              go_ret
              exact ⟨by first | rfl | (simp [errW_none, errW_some] <;> rfl) | (simp [*, errW_none, errW_some] <;> rfl), by repeat (first | (with_reducible first | exact HB.out | apply below_alloc | apply pw_below_drewN | apply below_drew1) | exact HB.out)⟩

/-- THE ONE PURE STATEMENT of counterfoillaw14_SegBack: yours. -/
def counterfoillaw14_SegBack.Pure : Prop := ∀ (a0 : ByteArray) (a1 : Int) (l2 : List ByteArray), a0.size ≤ 140737488351232 → (Lit.int .i64 a1).wf = true → (l2.length * 16 ≤ 140737488351232 ∧ l2.length ≤ 9223372036854775807 ∧ ∀ y0 ∈ l2, y0.size ≤ 140737488351232) → ∃ k, counterfoillaw14_SegBack.f k a0 a1 l2 = some true

end Go.Proofs.Ytafhlaehkaledaa.P
