-- Printed by this session's own program wip/mprint.py
import Derived.Test.YtgfmdfgibkkfaaaPx0
namespace Go.Proofs.Ytgfmdfgibkkfaaa.P
open Go.RowKit Go.Proofs.YtgfmdfgibkkfaaaW.PrintWords Go.Proofs.YtgfmdfgibkkfaaaW.PrintLast Go.Proofs.YtgfmdfgibkkfaaaW.PrintMore
attribute [local go_sem] max2_int min2_int max_two min_two max_three min_three max_four min_four   -- for this text's walks alone
set_option linter.unusedVariables false
set_option linter.unusedSimpArgs false

/-! ### counterfoilref01_Put: function 45 -/
mutual
def counterfoilref01_Put.j0 : Nat → Int → Int → Bool → Option (ByteArray × Int)
  | 0, _, _, _ => none
  | k + 1, x0, x1, x13 => if x13 = true then (some ((⟨#[]⟩ : ByteArray), 1)) else (if x0 < 0 then (some ((⟨#[]⟩ : ByteArray), 10)) else (counterfoilref01_Put.l0 k x0 x1 (⟨#[]⟩ : ByteArray) 0))
def counterfoilref01_Put.l0 : Nat → Int → Int → ByteArray → Int → Option (ByteArray × Int)
  | 0, _, _, _, _ => none
  | k + 1, x0, x1, x6, x7 => if x7 < x1 then ((some (([(Int.tmod x0 256) % 256] : List Int) : List Int)).bind fun y186 => (if (strOfNums y186).size + x6.size ≤ 9223372036854775807 then (counterfoilref01_Put.l0 k (wrap64 (Int.tdiv x0 256)) x1 ((strOfNums y186) ++ x6) (wrap64 (x7 + 1))) else (none))) else (if x0 > 0 then (some ((⟨#[]⟩ : ByteArray), 10)) else (some (x6, 0)))
end
def counterfoilref01_Put.f (k : Nat) (a0 : Int) (a1 : Int) : Option (ByteArray × Int) := if a1 < 1 then (counterfoilref01_Put.j0 k a0 a1 true) else (counterfoilref01_Put.j0 k a0 a1 (decide (a1 > 8)))
theorem counterfoilref01_Put.mono_l : ∀ k, (∀ y0 y1 y2, LeO (counterfoilref01_Put.j0 k y0 y1 y2) (counterfoilref01_Put.j0 (k + 1) y0 y1 y2)) ∧ (∀ y0 y1 y2 y3, LeO (counterfoilref01_Put.l0 k y0 y1 y2 y3) (counterfoilref01_Put.l0 (k + 1) y0 y1 y2 y3))
  | 0 => ⟨fun _ _ _ r h => by simp [counterfoilref01_Put.j0] at h, fun _ _ _ _ r h => by simp [counterfoilref01_Put.l0] at h⟩
  | k + 1 => by
    obtain ⟨ih0, ih1⟩ := counterfoilref01_Put.mono_l k
    refine ⟨?_, ?_⟩
    · intro y0 y1 y2
      unfold counterfoilref01_Put.j0
      repeat' first
      | (with_reducible exact ih0 _ _ _)
      | (with_reducible exact ih1 _ _ _ _)
      | (with_reducible exact LeO.refl _)
      | (with_reducible exact LeO.none _)
      | (with_reducible refine LeO.ite ?_ ?_)
      | (with_reducible refine LeO.bind ?_ (fun _ => ?_))
      | exact ih0 _ _ _
      | exact ih1 _ _ _ _
      | exact LeO.none _
      | refine LeO.ite ?_ ?_
      | refine LeO.bind ?_ (fun _ => ?_)
    · intro y0 y1 y2 y3
      unfold counterfoilref01_Put.l0
      repeat' first
      | (with_reducible exact ih0 _ _ _)
      | (with_reducible exact ih1 _ _ _ _)
      | (with_reducible exact LeO.refl _)
      | (with_reducible exact LeO.none _)
      | (with_reducible refine LeO.ite ?_ ?_)
      | (with_reducible refine LeO.bind ?_ (fun _ => ?_))
      | exact ih0 _ _ _
      | exact ih1 _ _ _ _
      | exact LeO.none _
      | refine LeO.ite ?_ ?_
      | refine LeO.bind ?_ (fun _ => ?_)
theorem counterfoilref01_Put.mono : ∀ a0 a1 k, LeO (counterfoilref01_Put.f k a0 a1) (counterfoilref01_Put.f (k + 1) a0 a1) := by
  intro a0 a1 k
  obtain ⟨ih0, ih1⟩ := counterfoilref01_Put.mono_l k
  unfold counterfoilref01_Put.f
  repeat' first
      | (with_reducible exact ih0 _ _ _)
      | (with_reducible exact ih1 _ _ _ _)
      | (with_reducible exact LeO.refl _)
      | (with_reducible exact LeO.none _)
      | (with_reducible refine LeO.ite ?_ ?_)
      | (with_reducible refine LeO.bind ?_ (fun _ => ?_))
      | exact ih0 _ _ _
      | exact ih1 _ _ _ _
      | exact LeO.none _
      | refine LeO.ite ?_ ?_
      | refine LeO.bind ?_ (fun _ => ?_)
set_option maxHeartbeats 8000000 in
set_option maxRecDepth 100000 in
theorem counterfoilref01_Put.calls (k : Nat) (a0 : Int) (a1 : Int) (r1 : ByteArray) (r2 : Int) (w : World) (h : counterfoilref01_Put.f k a0 a1 = some (r1, r2)) :
    Calls Try.prog 45 #[.int .i64 a0, .int .i64 a1] w fun e w' => e = .returned (.tuple #[.string r1, .int .i64 r2]) ∧ Below w.heap.size w w' := by
  have HB := Aside0.mk (Below.refl w.heap.size w)
  have H : (if a1 < 1 then (counterfoilref01_Put.j0 k a0 a1 true) else (counterfoilref01_Put.j0 k a0 a1 (decide (a1 > 8)))) = some (r1, r2) := h
  clear h
  have HC3 := Aside0.mk H
  clear H
  go_enter Try.func45, Try.ntmps45
  go_upto_region 1 with (fail)
  go_cut [13] (fun v13 wc => ∃ (kq : Nat) (x13_2 : Bool), v13 = .bool x13_2 ∧ Aside0 (counterfoilref01_Put.j0 kq a0 a1 x13_2 = some (r1, r2)) ∧ Aside0 (kq ≤ k) ∧ Aside0 (Below w.heap.size w wc))
  case first =>
    have H := HC3.out
    clear HC3
    by_cases c4 : a1 < 1
    · rw [if_pos c4] at H
      have c4b0 : decide (a1 < 1) = true := decide_eq_true c4
      clear c4
      (first | rw [c4b0] | (simp only [i64_w, i32_w]; rw [c4b0]) | skip)
      have H' := Aside0.mk H
      clear H
      go_wp2
      go_meet
      case rel => exact ⟨_, (true), (by first | rfl | (simp; done) | (simp [*]; done)), H', ⟨by first | omega | exact Nat.le_refl _⟩, ⟨by repeat (first | (with_reducible first | exact HB.out | apply below_alloc | apply pw_below_drewN | apply below_drew1) | exact HB.out)⟩⟩
    · rw [if_neg c4] at H
      have c4b0 : decide (a1 < 1) = false := decide_eq_false c4
      clear c4
      (first | rw [c4b0] | (simp only [i64_w, i32_w]; rw [c4b0]) | skip)
      have H' := Aside0.mk H
      clear H
      go_wp2
      go_meet
      case rel => exact ⟨_, (decide (a1 > 8)), (by first | rfl | (simp; done) | (simp [*]; done)), H', ⟨by first | omega | exact Nat.le_refl _⟩, ⟨by repeat (first | (with_reducible first | exact HB.out | apply below_alloc | apply pw_below_drewN | apply below_drew1) | exact HB.out)⟩⟩
  case rest =>
    clear HC3
    try clear p2
    try clear c4
    try clear c4b0
    obtain ⟨kq, x13_2, rfl, HA, HJ2, HB⟩ := hcut
    cases kq with
    | zero => exact absurd HA.out (by simp [counterfoilref01_Put.j0])
    | succ kj2 =>
      have H := HA.out
      clear HA
      simp only [counterfoilref01_Put.j0] at H
      by_cases c5 : x13_2 = true
      · subst c5
        have H1 : (some ((⟨#[]⟩ : ByteArray), 1)) = some (r1, r2) := by rw [if_pos rfl] at H; exact H
        clear H
        have H := H1
        clear H1
        simp only [Option.some.injEq, Prod.mk.injEq] at H
        obtain ⟨rfl, rfl⟩ := H
        go_wp2
        go_ret2
        exact ⟨by first | rfl | (simp [errW_none, errW_some] <;> rfl) | (simp [*, errW_none, errW_some] <;> rfl), by repeat (first | (with_reducible first | exact HB.out | apply below_alloc | apply pw_below_drewN | apply below_drew1) | exact HB.out)⟩
      · replace c5 := Bool.eq_false_iff.mpr c5
        subst c5
        have H1 : (if a0 < 0 then (some ((⟨#[]⟩ : ByteArray), 10)) else (counterfoilref01_Put.l0 kj2 a0 a1 (⟨#[]⟩ : ByteArray) 0)) = some (r1, r2) := by rw [if_neg (show ¬ (false = true) by decide)] at H; exact H
        clear H
        have H := H1
        clear H1
        by_cases c6 : a0 < 0
        · rw [if_pos c6] at H
          have c6b0 : decide (a0 < 0) = true := decide_eq_true c6
          clear c6
          simp only [Option.some.injEq, Prod.mk.injEq] at H
          obtain ⟨rfl, rfl⟩ := H
          go_wp2
          go_ret2
          exact ⟨by first | rfl | (simp [errW_none, errW_some] <;> rfl) | (simp [*, errW_none, errW_some] <;> rfl), by repeat (first | (with_reducible first | exact HB.out | apply below_alloc | apply pw_below_drewN | apply below_drew1) | exact HB.out)⟩
        · rw [if_neg c6] at H
          have c6b0 : decide (a0 < 0) = false := decide_eq_false c6
          clear c6
          have H' := Aside0.mk H
          clear H
          go_wp2
          go_loopg [0, 6, 7] kj2 (fun kq v0 v6 v7 w' => ∃ (x0_2 : Int) (x6_2 : ByteArray) (x7_2 : Int), v0 = .int .i64 x0_2 ∧ v6 = .string x6_2 ∧ v7 = .int .i64 x7_2 ∧ Aside0 (counterfoilref01_Put.l0 kq x0_2 a1 x6_2 x7_2 = some (r1, r2)) ∧ Aside0 (kq ≤ kj2) ∧ Aside0 (Below w.heap.size w w'))
          case atStart => exact ⟨(a0), ((⟨#[]⟩ : ByteArray)), (0), (by first | rfl | (simp; done) | (simp [*]; done)), (by first | rfl | (simp; done) | (simp [*]; done)), (by first | rfl | (simp; done) | (simp [*]; done)), H', ⟨Nat.le_refl _⟩, ⟨by repeat (first | (with_reducible first | exact HB.out | apply below_alloc | apply pw_below_drewN | apply below_drew1) | exact HB.out)⟩⟩
          case round =>
            clear H'
            try clear p2
            try clear c4
            try clear c4b0
            try clear c5
            try clear c6
            try clear c6b0
            try clear p2
            obtain ⟨x0_2, x6_2, x7_2, rfl, rfl, rfl, HA, HK2, HB⟩ := hrel
            cases gk with
            | zero => exact absurd HA.out (by simp [counterfoilref01_Put.l0])
            | succ k2 =>
              have H := HA.out
              clear HA
              simp only [counterfoilref01_Put.l0] at H
              by_cases c7 : x7_2 < a1
              · rw [if_pos c7] at H
                have c7b0 : decide (x7_2 < a1) = true := decide_eq_true c7
                clear c7
                obtain ⟨y186, hy186⟩ : ∃ y_ : List Int, y_ = (([(Int.tmod x0_2 256) % 256] : List Int)) := ⟨_, rfl⟩
                replace H : (if (strOfNums y186).size + x6_2.size ≤ 9223372036854775807 then (counterfoilref01_Put.l0 k2 (wrap64 (Int.tdiv x0_2 256)) a1 ((strOfNums y186) ++ x6_2) (wrap64 (x7_2 + 1))) else (none)) = some (r1, r2) := by first | (rw [hy186]; with_reducible exact H) | (have H2_ := (Option.bind_some _ _).symm.trans H; rw [hy186]; with_reducible exact H2_) | (have H2_ := (Option.bind_some _ _).symm.trans H; with_reducible exact H2_) | with_reducible exact H | (rw [hy186]; exact H) | exact H
                have Ny186 := Aside0.mk hy186
                clear hy186
                by_cases c8 : (strOfNums y186).size + x6_2.size ≤ 9223372036854775807
                · rw [if_pos c8] at H
                  have c8b0 := eq_true c8
                  have c8b1 : decide ((strOfNums y186).size + x6_2.size ≤ 9223372036854775807) = true := decide_eq_true c8
                  try have c8b2 : (9223372036854775807 < (strOfNums y186).size + x6_2.size) = False := eq_false (Nat.not_lt.2 c8)
                  have H' := Aside0.mk H
                  clear H
                  go_wp2_with (first | ((with_reducible refine gate_dst (N := 24) rfl ?_); refine Kd.R_lit (Kd.int .u8) _ 5 ?hg (N := 24) ?hd (xs := ([(Int.tmod x0_2 256) % 256] : List Int)) (inner := [.int .u8 ((Int.tmod x0_2 256) % 256)]) (ok := fun _ => True) (okp := fun _ => True) ?hr ?hp (fun _ hk => hk) trivial (Below.refl _ _) (Nat.le_refl _) (by simp) ?_; (case hd => rfl); (case hg => rfl); (case hr => first | (go_simp; done) | (go_simp; rfl) | (go_simp; simp only [w64m])); (case hp => exact (Reps.one (show Kd.M (Kd.int .u8) _ _ _ ((Int.tmod x0_2 256) % 256) [.int .u8 ((Int.tmod x0_2 256) % 256)] from rfl) (Reps.none _ _))); intro v187 w9 ho10 hb hg_ hnew_; clear hg_ hnew_; (first | rw [← Ny186.out] at ho10 | (simp only [Int.reduceToNat] at ho10; rw [← Ny186.out] at ho10)); have n0_ := Aside0.mk (Kd.R_lower ho10 (below_size (by repeat (first | (with_reducible first | exact HB.out | apply below_alloc | apply pw_below_drewN | apply below_drew1) | exact HB.out)))); have n1_ := Aside0.mk (below_step (by repeat (first | (with_reducible first | exact HB.out | apply below_alloc | apply pw_below_drewN | apply below_drew1) | exact HB.out)) hb); clear HB; have HO188 := n0_; have HB := n1_; clear n0_ n1_; clear hb ho10; have hcv11 := own_string (P := Try.prog) Try.underlying84 Try.underlying5 Try.underlying9 (Kd.own_of_R HO188.out)))
                  go_roundg k2
                  case measure => have := HJ2.out; have := HK2.out; omega
                  case rel => exact ⟨(wrap64 (Int.tdiv x0_2 256)), ((strOfNums y186) ++ x6_2), (wrap64 (x7_2 + 1)), (by first | rfl | (simp; done) | (simp [*]; done)), (by first | rfl | (simp; done) | (simp [*]; done)), (by first | rfl | (simp; done) | (simp [*]; done)), H', ⟨by have := HJ2.out; have := HK2.out; omega⟩, ⟨by repeat (first | (with_reducible first | exact HB.out | apply below_alloc | apply pw_below_drewN | apply below_drew1) | exact HB.out)⟩⟩
                · rw [if_neg c8] at H
                  exact absurd H (by simp)
              · rw [if_neg c7] at H
                have c7b0 : decide (x7_2 < a1) = false := decide_eq_false c7
                clear c7
                by_cases c12 : x0_2 > 0
                · rw [if_pos c12] at H
                  have c12b0 : decide (0 < x0_2) = true := decide_eq_true c12
                  clear c12
                  simp only [Option.some.injEq, Prod.mk.injEq] at H
                  obtain ⟨rfl, rfl⟩ := H
                  go_wp2
                  go_ret2
                  exact ⟨by first | rfl | (simp [errW_none, errW_some] <;> rfl) | (simp [*, errW_none, errW_some] <;> rfl), by repeat (first | (with_reducible first | exact HB.out | apply below_alloc | apply pw_below_drewN | apply below_drew1) | exact HB.out)⟩
                · rw [if_neg c12] at H
                  have c12b0 : decide (0 < x0_2) = false := decide_eq_false c12
                  clear c12
                  simp only [Option.some.injEq, Prod.mk.injEq] at H
                  obtain ⟨rfl, rfl⟩ := H
                  go_wp2
                  go_ret2
                  exact ⟨by first | rfl | (simp [errW_none, errW_some] <;> rfl) | (simp [*, errW_none, errW_some] <;> rfl), by repeat (first | (with_reducible first | exact HB.out | apply below_alloc | apply pw_below_drewN | apply below_drew1) | exact HB.out)⟩

/-! ### counterfoilref02_Four: function 50 -/
def counterfoilref02_Four.f (a0 : Int) : Option (ByteArray) := some (strOfNums (([(wrap64 (Int.tdiv (wrap64 (a0)) 16777216)) % 256, (Int.tmod (wrap64 (Int.tdiv (wrap64 (a0)) 65536)) 256) % 256, (Int.tmod (wrap64 (Int.tdiv (wrap64 (a0)) 256)) 256) % 256, (Int.tmod (wrap64 (a0)) 256) % 256] : List Int)))
set_option maxHeartbeats 8000000 in
set_option maxRecDepth 100000 in
theorem counterfoilref02_Four.calls (a0 : Int) (r : ByteArray) (w : World) (h : counterfoilref02_Four.f a0 = some r) :
    Calls Try.prog 50 #[.int .u32 a0] w fun e w' => e = .returned (.string r) ∧ Below w.heap.size w w' := by
  have HB := Aside0.mk (Below.refl w.heap.size w)
  have H : (some (strOfNums (([(wrap64 (Int.tdiv (wrap64 (a0)) 16777216)) % 256, (Int.tmod (wrap64 (Int.tdiv (wrap64 (a0)) 65536)) 256) % 256, (Int.tmod (wrap64 (Int.tdiv (wrap64 (a0)) 256)) 256) % 256, (Int.tmod (wrap64 (a0)) 256) % 256] : List Int)))) = some r := h
  clear h
  obtain ⟨y189, hy189⟩ : ∃ y_ : List Int, y_ = (([(wrap64 (Int.tdiv (wrap64 (a0)) 16777216)) % 256, (Int.tmod (wrap64 (Int.tdiv (wrap64 (a0)) 65536)) 256) % 256, (Int.tmod (wrap64 (Int.tdiv (wrap64 (a0)) 256)) 256) % 256, (Int.tmod (wrap64 (a0)) 256) % 256] : List Int)) := ⟨_, rfl⟩
  replace H : (some (strOfNums y189)) = some r := by first | (rw [hy189]; with_reducible exact H) | (have H2_ := (Option.bind_some _ _).symm.trans H; rw [hy189]; with_reducible exact H2_) | (have H2_ := (Option.bind_some _ _).symm.trans H; with_reducible exact H2_) | with_reducible exact H | (rw [hy189]; exact H) | exact H
  have Ny189 := Aside0.mk hy189
  clear hy189
  obtain rfl := Option.some.inj H
  go_enter Try.func50, Try.ntmps50
  go_wp2_with (first | ((with_reducible refine gate_dst (N := 20) rfl ?_); refine Kd.R_lit (Kd.int .u8) _ 5 ?hg (N := 20) ?hd (xs := ([(wrap64 (Int.tdiv (wrap64 (a0)) 16777216)) % 256, (Int.tmod (wrap64 (Int.tdiv (wrap64 (a0)) 65536)) 256) % 256, (Int.tmod (wrap64 (Int.tdiv (wrap64 (a0)) 256)) 256) % 256, (Int.tmod (wrap64 (a0)) 256) % 256] : List Int)) (inner := [.int .u8 ((wrap64 (Int.tdiv (wrap64 (a0)) 16777216)) % 256), .int .u8 ((Int.tmod (wrap64 (Int.tdiv (wrap64 (a0)) 65536)) 256) % 256), .int .u8 ((Int.tmod (wrap64 (Int.tdiv (wrap64 (a0)) 256)) 256) % 256), .int .u8 ((Int.tmod (wrap64 (a0)) 256) % 256)]) (ok := fun _ => True) (okp := fun _ => True) ?hr ?hp (fun _ hk => hk) trivial (Below.refl _ _) (Nat.le_refl _) (by simp) ?_; (case hd => rfl); (case hg => rfl); (case hr => first | (go_simp; done) | (go_simp; rfl) | (go_simp; simp only [w64m])); (case hp => exact (Reps.one (show Kd.M (Kd.int .u8) _ _ _ ((wrap64 (Int.tdiv (wrap64 (a0)) 16777216)) % 256) [.int .u8 ((wrap64 (Int.tdiv (wrap64 (a0)) 16777216)) % 256)] from rfl) (Reps.one (show Kd.M (Kd.int .u8) _ _ _ ((Int.tmod (wrap64 (Int.tdiv (wrap64 (a0)) 65536)) 256) % 256) [.int .u8 ((Int.tmod (wrap64 (Int.tdiv (wrap64 (a0)) 65536)) 256) % 256)] from rfl) (Reps.one (show Kd.M (Kd.int .u8) _ _ _ ((Int.tmod (wrap64 (Int.tdiv (wrap64 (a0)) 256)) 256) % 256) [.int .u8 ((Int.tmod (wrap64 (Int.tdiv (wrap64 (a0)) 256)) 256) % 256)] from rfl) (Reps.one (show Kd.M (Kd.int .u8) _ _ _ ((Int.tmod (wrap64 (a0)) 256) % 256) [.int .u8 ((Int.tmod (wrap64 (a0)) 256) % 256)] from rfl) (Reps.none _ _)))))); intro v190 w2 ho3 hb hg_ hnew_; clear hg_ hnew_; (first | rw [← Ny189.out] at ho3 | (simp only [Int.reduceToNat] at ho3; rw [← Ny189.out] at ho3)); have n0_ := Aside0.mk (Kd.R_lower ho3 (below_size (by repeat (first | (with_reducible first | exact HB.out | apply below_alloc | apply pw_below_drewN | apply below_drew1) | exact HB.out)))); have n1_ := Aside0.mk (below_step (by repeat (first | (with_reducible first | exact HB.out | apply below_alloc | apply pw_below_drewN | apply below_drew1) | exact HB.out)) hb); clear HB; have HO191 := n0_; have HB := n1_; clear n0_ n1_; clear hb ho3; have hcv4 := own_string (P := Try.prog) Try.underlying84 Try.underlying5 Try.underlying9 (Kd.own_of_R HO191.out)))
  go_ret
  exact ⟨by first | rfl | (simp [errW_none, errW_some] <;> rfl) | (simp [*, errW_none, errW_some] <;> rfl), by repeat (first | (with_reducible first | exact HB.out | apply below_alloc | apply pw_below_drewN | apply below_drew1) | exact HB.out)⟩

/-! ### counterfoilref02_On: function 51 -/
mutual
def counterfoilref02_On.l0 : Nat → ByteArray → Int → Int → Option (Int)
  | 0, _, _, _ => none
  | k + 1, x1, x5, x6 => if x6 < (x1.size : Int) then (counterfoilref02_On.l1 k x1 x5 x6 0) else (some ((wrap64 (4294967295 - x5)) % 4294967296))
def counterfoilref02_On.l1 : Nat → ByteArray → Int → Int → Int → Option (Int)
  | 0, _, _, _, _ => none
  | k + 1, x1, x5, x6, x7 => if x7 < 8 then (if 0 ≤ x6 then (if x6 < (x1.size : Int) then (if 0 ≤ x7 then (if (Int.tmod x5 2) = (Go.bits .and .i64 (shr .i64 (wrap64 (bt x1 x6)) x7) 1) then (counterfoilref02_On.l1 k x1 (wrap64 (Int.tdiv x5 2)) x6 (wrap64 (x7 + 1))) else (counterfoilref02_On.l1 k x1 (Go.bits .xor .i64 (wrap64 (Int.tdiv x5 2)) 3988292384) x6 (wrap64 (x7 + 1)))) else (none)) else (none)) else (none)) else (counterfoilref02_On.l0 k x1 x5 (wrap64 (x6 + 1)))
end
def counterfoilref02_On.f (k : Nat) (a0 : Int) (a1 : ByteArray) : Option (Int) := counterfoilref02_On.l0 k a1 (wrap64 (4294967295 - (wrap64 (a0)))) 0
theorem counterfoilref02_On.mono_l : ∀ k, (∀ y0 y1 y2, LeO (counterfoilref02_On.l0 k y0 y1 y2) (counterfoilref02_On.l0 (k + 1) y0 y1 y2)) ∧ (∀ y0 y1 y2 y3, LeO (counterfoilref02_On.l1 k y0 y1 y2 y3) (counterfoilref02_On.l1 (k + 1) y0 y1 y2 y3))
  | 0 => ⟨fun _ _ _ r h => by simp [counterfoilref02_On.l0] at h, fun _ _ _ _ r h => by simp [counterfoilref02_On.l1] at h⟩
  | k + 1 => by
    obtain ⟨ih0, ih1⟩ := counterfoilref02_On.mono_l k
    refine ⟨?_, ?_⟩
    · intro y0 y1 y2
      unfold counterfoilref02_On.l0
      repeat' first
      | (with_reducible exact ih0 _ _ _)
      | (with_reducible exact ih1 _ _ _ _)
      | (with_reducible exact LeO.refl _)
      | (with_reducible exact LeO.none _)
      | (with_reducible refine LeO.ite ?_ ?_)
      | (with_reducible refine LeO.bind ?_ (fun _ => ?_))
      | exact ih0 _ _ _
      | exact ih1 _ _ _ _
      | exact LeO.none _
      | refine LeO.ite ?_ ?_
      | refine LeO.bind ?_ (fun _ => ?_)
    · intro y0 y1 y2 y3
      unfold counterfoilref02_On.l1
      repeat' first
      | (with_reducible exact ih0 _ _ _)
      | (with_reducible exact ih1 _ _ _ _)
      | (with_reducible exact LeO.refl _)
      | (with_reducible exact LeO.none _)
      | (with_reducible refine LeO.ite ?_ ?_)
      | (with_reducible refine LeO.bind ?_ (fun _ => ?_))
      | exact ih0 _ _ _
      | exact ih1 _ _ _ _
      | exact LeO.none _
      | refine LeO.ite ?_ ?_
      | refine LeO.bind ?_ (fun _ => ?_)
theorem counterfoilref02_On.mono : ∀ a0 a1 k, LeO (counterfoilref02_On.f k a0 a1) (counterfoilref02_On.f (k + 1) a0 a1) := by
  intro a0 a1 k
  obtain ⟨ih0, ih1⟩ := counterfoilref02_On.mono_l k
  unfold counterfoilref02_On.f
  repeat' first
      | (with_reducible exact ih0 _ _ _)
      | (with_reducible exact ih1 _ _ _ _)
      | (with_reducible exact LeO.refl _)
      | (with_reducible exact LeO.none _)
      | (with_reducible refine LeO.ite ?_ ?_)
      | (with_reducible refine LeO.bind ?_ (fun _ => ?_))
      | exact ih0 _ _ _
      | exact ih1 _ _ _ _
      | exact LeO.none _
      | refine LeO.ite ?_ ?_
      | refine LeO.bind ?_ (fun _ => ?_)
set_option maxHeartbeats 8000000 in
set_option maxRecDepth 100000 in
theorem counterfoilref02_On.calls (k : Nat) (a0 : Int) (a1 : ByteArray) (r : Int) (w : World) (h : counterfoilref02_On.f k a0 a1 = some r) :
    Calls Try.prog 51 #[.int .u32 a0, .string a1] w fun e w' => e = .returned (.int .u32 r) ∧ Drawn0 w w' := by
  have H : (counterfoilref02_On.l0 k a1 (wrap64 (4294967295 - (wrap64 (a0)))) 0) = some r := h
  clear h
  have H' := Aside0.mk H
  clear H
  go_enter Try.func51, Try.ntmps51
  go_wp2
  go_loopg [5, 6] k (fun kq v5 v6 w' => ∃ (x5_1 : Int) (x6_1 : Int), v5 = .int .i64 x5_1 ∧ v6 = .int .i64 x6_1 ∧ Aside0 (counterfoilref02_On.l0 kq a1 x5_1 x6_1 = some r) ∧ Aside0 (kq ≤ k) ∧ Drawn0 w w')
  case atStart => exact ⟨(wrap64 (4294967295 - (wrap64 (a0)))), (0), (by first | rfl | (simp; done) | (simp [*]; done)), (by first | rfl | (simp; done) | (simp [*]; done)), H', ⟨Nat.le_refl _⟩, by repeat (first | exact Drawn0.refl _ | apply Drawn0.step)⟩
  case round =>
    clear H'
    try clear p2
    obtain ⟨x5_1, x6_1, rfl, rfl, HA, HK1, ⟨m1, rfl⟩⟩ := hrel
    cases gk with
    | zero => exact absurd HA.out (by simp [counterfoilref02_On.l0])
    | succ k1 =>
      have H := HA.out
      clear HA
      simp only [counterfoilref02_On.l0] at H
      by_cases c3 : x6_1 < (a1.size : Int)
      · rw [if_pos c3] at H
        have c3b0 : decide (x6_1 < (a1.size : Int)) = true := decide_eq_true c3
        clear c3
        have H' := Aside0.mk H
        clear H
        go_wp2
        go_loopg [5, 7] k1 (fun kq v5 v7 w' => ∃ (x5_2 : Int) (x7_2 : Int), v5 = .int .i64 x5_2 ∧ v7 = .int .i64 x7_2 ∧ Aside0 (counterfoilref02_On.l1 kq a1 x5_2 x6_1 x7_2 = some r) ∧ Aside0 (kq ≤ k1) ∧ Drawn0 w w')
        case atStart => exact ⟨(x5_1), (0), (by first | rfl | (simp; done) | (simp [*]; done)), (by first | rfl | (simp; done) | (simp [*]; done)), H', ⟨Nat.le_refl _⟩, by repeat (first | exact Drawn0.refl _ | apply Drawn0.step)⟩
        case round =>
          clear H'
          try clear p2
          try clear c3
          try clear c3b0
          try clear p2
          obtain ⟨x5_2, x7_2, rfl, rfl, HA, HK2, ⟨m2, rfl⟩⟩ := hrel
          cases gk with
          | zero => exact absurd HA.out (by simp [counterfoilref02_On.l1])
          | succ k2 =>
            have H := HA.out
            clear HA
            simp only [counterfoilref02_On.l1] at H
            by_cases c4 : x7_2 < 8
            · rw [if_pos c4] at H
              have c4b0 : decide (x7_2 < 8) = true := decide_eq_true c4
              clear c4
              by_cases c5 : 0 ≤ x6_1
              · rw [if_pos c5] at H
                have c5b0 : decide (0 ≤ x6_1) = true := decide_eq_true c5
                clear c5
                by_cases c6 : x6_1 < (a1.size : Int)
                · rw [if_pos c6] at H
                  have c6b0 : decide (x6_1 < (a1.size : Int)) = true := decide_eq_true c6
                  clear c6
                  by_cases c8 : 0 ≤ x7_2
                  · rw [if_pos c8] at H
                    have c8b0 := eq_true c8
                    have c8b1 : decide (0 ≤ x7_2) = true := decide_eq_true c8
                    clear c8
                    obtain ⟨ji9, hji9⟩ : ∃ j_ : Int, (shr .i64 (wrap64 (bt a1 x6_1)) x7_2) = j_ := ⟨_, rfl⟩
                    replace H : (if (Int.tmod x5_2 2) = (Go.bits .and .i64 (ji9) 1) then (counterfoilref02_On.l1 k2 a1 (wrap64 (Int.tdiv x5_2 2)) x6_1 (wrap64 (x7_2 + 1))) else (counterfoilref02_On.l1 k2 a1 (Go.bits .xor .i64 (wrap64 (Int.tdiv x5_2 2)) 3988292384) x6_1 (wrap64 (x7_2 + 1)))) = some r := by first | (rw [hji9] at H; exact H) | (simp only [hji9] at H ⊢; exact H)
                    have hji9_ : ((wrap64 (bt a1 x6_1)) / 2 ^ min x7_2.toNat 64) = ji9 := hji9
                    have hji9z : x7_2 ≤ 64 → ((wrap64 (bt a1 x6_1)) / 2 ^ x7_2.toNat) = ji9 := shr_small hji9
                    by_cases c10 : (Int.tmod x5_2 2) = (Go.bits .and .i64 (ji9) 1)
                    · rw [if_pos c10] at H
                      have c10b0 : ((Int.tmod x5_2 2) == (Go.bits .and .i64 (ji9) 1)) = true := beq_iff_eq.mpr c10
                      have c10b1 : ((Int.tmod x5_2 2) != (Go.bits .and .i64 (ji9) 1)) = false := bne_eq_false_iff_eq.mpr c10
                      clear c10
                      have H' := Aside0.mk H
                      clear H
                      have p7 : 0 ≤ (x6_1 : Int) := of_decide_eq_true (by first | (with_reducible assumption) | assumption)
                      have q7 : x6_1 < (a1.size : Int) := of_decide_eq_true (by first | (with_reducible assumption) | assumption)
                      have hx7 := bt_at a1 x6_1
                      replace p7 := eq_true p7
                      replace q7 := eq_true q7
                      go_wp2
                      go_roundg k2
                      case measure => have := HK1.out; have := HK2.out; omega
                      case rel => exact ⟨(wrap64 (Int.tdiv x5_2 2)), (wrap64 (x7_2 + 1)), (by first | rfl | (simp; done) | (simp [*]; done)), (by first | rfl | (simp; done) | (simp [*]; done)), H', ⟨by have := HK1.out; have := HK2.out; omega⟩, by repeat (first | exact Drawn0.refl _ | apply Drawn0.step)⟩
                    · rw [if_neg c10] at H
                      have c10b0 : ((Int.tmod x5_2 2) == (Go.bits .and .i64 (ji9) 1)) = false := beq_eq_false_iff_ne.mpr c10
                      have c10b1 : ((Int.tmod x5_2 2) != (Go.bits .and .i64 (ji9) 1)) = true := bne_iff_ne.mpr c10
                      have H' := Aside0.mk H
                      clear H
                      have p7 : 0 ≤ (x6_1 : Int) := of_decide_eq_true (by first | (with_reducible assumption) | assumption)
                      have q7 : x6_1 < (a1.size : Int) := of_decide_eq_true (by first | (with_reducible assumption) | assumption)
                      have hx7 := bt_at a1 x6_1
                      replace p7 := eq_true p7
                      replace q7 := eq_true q7
                      go_wp2
                      go_roundg k2
                      case measure => have := HK1.out; have := HK2.out; omega
                      case rel => exact ⟨(Go.bits .xor .i64 (wrap64 (Int.tdiv x5_2 2)) 3988292384), (wrap64 (x7_2 + 1)), (by first | rfl | (simp; done) | (simp [*]; done)), (by first | rfl | (simp; done) | (simp [*]; done)), H', ⟨by have := HK1.out; have := HK2.out; omega⟩, by repeat (first | exact Drawn0.refl _ | apply Drawn0.step)⟩
                  · rw [if_neg c8] at H
                    exact absurd H (by simp)
                · rw [if_neg c6] at H
                  exact absurd H (by simp)
              · rw [if_neg c5] at H
                exact absurd H (by simp)
            · rw [if_neg c4] at H
              have c4b0 : decide (x7_2 < 8) = false := decide_eq_false c4
              clear c4
              have H' := Aside0.mk H
              clear H
              go_wp2
              go_roundg k2
              case measure => have := HK1.out; have := HK2.out; omega
              case rel => exact ⟨(x5_2), (wrap64 (x6_1 + 1)), (by first | rfl | (simp; done) | (simp [*]; done)), (by first | rfl | (simp; done) | (simp [*]; done)), H', ⟨by have := HK1.out; have := HK2.out; omega⟩, by repeat (first | exact Drawn0.refl _ | apply Drawn0.step)⟩
      · rw [if_neg c3] at H
        have c3b0 : decide (x6_1 < (a1.size : Int)) = false := decide_eq_false c3
        clear c3
        obtain rfl := Option.some.inj H
        go_wp2
        go_ret
        exact ⟨by first | rfl | (simp; done) | (simp [*]; done), by repeat (first | exact Drawn0.refl _ | apply Drawn0.step)⟩

/-! ### counterfoilref03_Seal: function 46 -/
def counterfoilref03_Seal.j0 : Nat → Int → ByteArray → Bool → Option (ByteArray × Int)
  | 0, _, _, _ => none
  | k + 1, x0, x1, x12 => if x12 = true then (some ((⟨#[]⟩ : ByteArray), 1)) else (if (x1.size : Int) > 4096 then (some ((⟨#[]⟩ : ByteArray), 5)) else ((some (([(x0) % 256, (wrap64 ((x1.size : Int) / 256)) % 256, (x1.size : Int) % 256] : List Int) : List Int)).bind fun y192 => (if (strOfNums y192).size + x1.size ≤ 9223372036854775807 then ((counterfoilref02_On.f k 0 ((strOfNums y192) ++ x1)).bind fun t195 => ((counterfoilref02_Four.f t195).bind fun t196 => (if ((strOfNums y192) ++ x1).size + t196.size ≤ 9223372036854775807 then (some (((strOfNums y192) ++ x1) ++ t196, 0)) else (none)))) else (none))))
def counterfoilref03_Seal.f (k : Nat) (a0 : Int) (a1 : ByteArray) : Option (ByteArray × Int) := if a0 < 0 then (counterfoilref03_Seal.j0 k a0 a1 true) else (counterfoilref03_Seal.j0 k a0 a1 (decide (a0 > 255)))
theorem counterfoilref03_Seal.mono_l : ∀ k, (∀ y0 y1 y2, LeO (counterfoilref03_Seal.j0 k y0 y1 y2) (counterfoilref03_Seal.j0 (k + 1) y0 y1 y2))
  | 0 => fun _ _ _ r h => by simp [counterfoilref03_Seal.j0] at h
  | k + 1 => by
    have ih0 := counterfoilref03_Seal.mono_l k
    · intro y0 y1 y2
      unfold counterfoilref03_Seal.j0
      repeat' first
      | (with_reducible exact ih0 _ _ _)
      | (with_reducible exact counterfoilref02_On.mono _ _ _)
      | (with_reducible exact LeO.refl _)
      | (with_reducible exact LeO.none _)
      | (with_reducible refine LeO.ite ?_ ?_)
      | (with_reducible refine LeO.bind ?_ (fun _ => ?_))
      | exact ih0 _ _ _
      | exact counterfoilref02_On.mono _ _ _
      | exact LeO.none _
      | refine LeO.ite ?_ ?_
      | refine LeO.bind ?_ (fun _ => ?_)
theorem counterfoilref03_Seal.mono : ∀ a0 a1 k, LeO (counterfoilref03_Seal.f k a0 a1) (counterfoilref03_Seal.f (k + 1) a0 a1) := by
  intro a0 a1 k
  have ih0 := counterfoilref03_Seal.mono_l k
  unfold counterfoilref03_Seal.f
  repeat' first
      | (with_reducible exact ih0 _ _ _)
      | (with_reducible exact counterfoilref02_On.mono _ _ _)
      | (with_reducible exact LeO.refl _)
      | (with_reducible exact LeO.none _)
      | (with_reducible refine LeO.ite ?_ ?_)
      | (with_reducible refine LeO.bind ?_ (fun _ => ?_))
      | exact ih0 _ _ _
      | exact counterfoilref02_On.mono _ _ _
      | exact LeO.none _
      | refine LeO.ite ?_ ?_
      | refine LeO.bind ?_ (fun _ => ?_)
set_option maxHeartbeats 8000000 in
set_option maxRecDepth 100000 in
theorem counterfoilref03_Seal.calls (k : Nat) (a0 : Int) (a1 : ByteArray) (r1 : ByteArray) (r2 : Int) (w : World) (h : counterfoilref03_Seal.f k a0 a1 = some (r1, r2)) :
    Calls Try.prog 46 #[.int .i64 a0, .string a1] w fun e w' => e = .returned (.tuple #[.string r1, .int .i64 r2]) ∧ Below w.heap.size w w' := by
  have HB := Aside0.mk (Below.refl w.heap.size w)
  have H : (if a0 < 0 then (counterfoilref03_Seal.j0 k a0 a1 true) else (counterfoilref03_Seal.j0 k a0 a1 (decide (a0 > 255)))) = some (r1, r2) := h
  clear h
  have HC3 := Aside0.mk H
  clear H
  go_enter Try.func46, Try.ntmps46
  go_upto_region 1 with (fail)
  go_cut [12] (fun v12 wc => ∃ (kq : Nat) (x12_2 : Bool), v12 = .bool x12_2 ∧ Aside0 (counterfoilref03_Seal.j0 kq a0 a1 x12_2 = some (r1, r2)) ∧ Aside0 (kq ≤ k) ∧ Aside0 (Below w.heap.size w wc))
  case first =>
    have H := HC3.out
    clear HC3
    by_cases c4 : a0 < 0
    · rw [if_pos c4] at H
      have c4b0 : decide (a0 < 0) = true := decide_eq_true c4
      clear c4
      (first | rw [c4b0] | (simp only [i64_w, i32_w]; rw [c4b0]) | skip)
      have H' := Aside0.mk H
      clear H
      go_wp2
      go_meet
      case rel => exact ⟨_, (true), (by first | rfl | (simp; done) | (simp [*]; done)), H', ⟨by first | omega | exact Nat.le_refl _⟩, ⟨by repeat (first | (with_reducible first | exact HB.out | apply below_alloc | apply pw_below_drewN | apply below_drew1) | exact HB.out)⟩⟩
    · rw [if_neg c4] at H
      have c4b0 : decide (a0 < 0) = false := decide_eq_false c4
      clear c4
      (first | rw [c4b0] | (simp only [i64_w, i32_w]; rw [c4b0]) | skip)
      have H' := Aside0.mk H
      clear H
      go_wp2
      go_meet
      case rel => exact ⟨_, (decide (a0 > 255)), (by first | rfl | (simp; done) | (simp [*]; done)), H', ⟨by first | omega | exact Nat.le_refl _⟩, ⟨by repeat (first | (with_reducible first | exact HB.out | apply below_alloc | apply pw_below_drewN | apply below_drew1) | exact HB.out)⟩⟩
  case rest =>
    clear HC3
    try clear p2
    try clear c4
    try clear c4b0
    obtain ⟨kq, x12_2, rfl, HA, HJ2, HB⟩ := hcut
    cases kq with
    | zero => exact absurd HA.out (by simp [counterfoilref03_Seal.j0])
    | succ kj2 =>
      have H := HA.out
      clear HA
      simp only [counterfoilref03_Seal.j0] at H
      by_cases c5 : x12_2 = true
      · subst c5
        have H1 : (some ((⟨#[]⟩ : ByteArray), 1)) = some (r1, r2) := by rw [if_pos rfl] at H; exact H
        clear H
        have H := H1
        clear H1
        simp only [Option.some.injEq, Prod.mk.injEq] at H
        obtain ⟨rfl, rfl⟩ := H
        go_wp2
        go_ret2
        exact ⟨by first | rfl | (simp [errW_none, errW_some] <;> rfl) | (simp [*, errW_none, errW_some] <;> rfl), by repeat (first | (with_reducible first | exact HB.out | apply below_alloc | apply pw_below_drewN | apply below_drew1) | exact HB.out)⟩
      · replace c5 := Bool.eq_false_iff.mpr c5
        subst c5
        have H1 : (if (a1.size : Int) > 4096 then (some ((⟨#[]⟩ : ByteArray), 5)) else ((some (([(a0) % 256, (wrap64 ((a1.size : Int) / 256)) % 256, (a1.size : Int) % 256] : List Int) : List Int)).bind fun y192 => (if (strOfNums y192).size + a1.size ≤ 9223372036854775807 then ((counterfoilref02_On.f kj2 0 ((strOfNums y192) ++ a1)).bind fun t195 => ((counterfoilref02_Four.f t195).bind fun t196 => (if ((strOfNums y192) ++ a1).size + t196.size ≤ 9223372036854775807 then (some (((strOfNums y192) ++ a1) ++ t196, 0)) else (none)))) else (none)))) = some (r1, r2) := by rw [if_neg (show ¬ (false = true) by decide)] at H; exact H
        clear H
        have H := H1
        clear H1
        by_cases c6 : (a1.size : Int) > 4096
        · rw [if_pos c6] at H
          have c6b0 : decide (4096 < (a1.size : Int)) = true := decide_eq_true c6
          have c6b1 : decide (4096 < a1.size) = true := decide_eq_true (by omega)
          clear c6
          simp only [Option.some.injEq, Prod.mk.injEq] at H
          obtain ⟨rfl, rfl⟩ := H
          go_wp2
          go_ret2
          exact ⟨by first | rfl | (simp [errW_none, errW_some] <;> rfl) | (simp [*, errW_none, errW_some] <;> rfl), by repeat (first | (with_reducible first | exact HB.out | apply below_alloc | apply pw_below_drewN | apply below_drew1) | exact HB.out)⟩
        · rw [if_neg c6] at H
          have c6b0 : decide (4096 < (a1.size : Int)) = false := decide_eq_false c6
          have c6b1 : decide (4096 < a1.size) = false := decide_eq_false (by omega)
          clear c6
          obtain ⟨y192, hy192⟩ : ∃ y_ : List Int, y_ = (([(a0) % 256, (wrap64 ((a1.size : Int) / 256)) % 256, (a1.size : Int) % 256] : List Int)) := ⟨_, rfl⟩
          replace H : (if (strOfNums y192).size + a1.size ≤ 9223372036854775807 then ((counterfoilref02_On.f kj2 0 ((strOfNums y192) ++ a1)).bind fun t195 => ((counterfoilref02_Four.f t195).bind fun t196 => (if ((strOfNums y192) ++ a1).size + t196.size ≤ 9223372036854775807 then (some (((strOfNums y192) ++ a1) ++ t196, 0)) else (none)))) else (none)) = some (r1, r2) := by first | (rw [hy192]; with_reducible exact H) | (have H2_ := (Option.bind_some _ _).symm.trans H; rw [hy192]; with_reducible exact H2_) | (have H2_ := (Option.bind_some _ _).symm.trans H; with_reducible exact H2_) | with_reducible exact H | (rw [hy192]; exact H) | exact H
          have Ny192 := Aside0.mk hy192
          clear hy192
          by_cases c7 : (strOfNums y192).size + a1.size ≤ 9223372036854775807
          · rw [if_pos c7] at H
            have c7b0 := eq_true c7
            have c7b1 : decide ((strOfNums y192).size + a1.size ≤ 9223372036854775807) = true := decide_eq_true c7
            try have c7b2 : (9223372036854775807 < (strOfNums y192).size + a1.size) = False := eq_false (Nat.not_lt.2 c7)
            replace H := Option.bind_eq_some_iff.mp H
            obtain ⟨t195, A80, H⟩ := H
            replace H : ((counterfoilref02_Four.f t195).bind fun t196 => (if ((strOfNums y192) ++ a1).size + t196.size ≤ 9223372036854775807 then (some (((strOfNums y192) ++ a1) ++ t196, 0)) else (none))) = some (r1, r2) := H
            have A8 := Aside0.mk A80
            clear A80
            replace H := Option.bind_eq_some_iff.mp H
            obtain ⟨t196, A90, H⟩ := H
            replace H : (if ((strOfNums y192) ++ a1).size + t196.size ≤ 9223372036854775807 then (some (((strOfNums y192) ++ a1) ++ t196, 0)) else (none)) = some (r1, r2) := H
            have A9 := Aside0.mk A90
            clear A90
            by_cases c10 : ((strOfNums y192) ++ a1).size + t196.size ≤ 9223372036854775807
            · rw [if_pos c10] at H
              have c10b0 := eq_true c10
              have c10b1 : decide (((strOfNums y192) ++ a1).size + t196.size ≤ 9223372036854775807) = true := decide_eq_true c10
              try have c10b2 : (9223372036854775807 < ((strOfNums y192) ++ a1).size + t196.size) = False := eq_false (Nat.not_lt.2 c10)
              (try (have c10b2x := c10b2; simp only [ByteArray.size_append] at c10b2x))
              simp only [Option.some.injEq, Prod.mk.injEq] at H
              obtain ⟨rfl, rfl⟩ := H
              go_wp2_with (first | ((with_reducible refine gate_dst (N := 26) rfl ?_); refine Kd.R_lit (Kd.int .u8) _ 5 ?hg (N := 26) ?hd (xs := ([(a0) % 256, (wrap64 ((a1.size : Int) / 256)) % 256, (a1.size : Int) % 256] : List Int)) (inner := [.int .u8 ((a0) % 256), .int .u8 ((wrap64 ((a1.size : Int) / 256)) % 256), .int .u8 ((a1.size : Int) % 256)]) (ok := fun _ => True) (okp := fun _ => True) ?hr ?hp (fun _ hk => hk) trivial (Below.refl _ _) (Nat.le_refl _) (by simp) ?_; (case hd => rfl); (case hg => rfl); (case hr => first | (go_simp; done) | (go_simp; rfl) | (go_simp; simp only [w64m])); (case hp => exact (Reps.one (show Kd.M (Kd.int .u8) _ _ _ ((a0) % 256) [.int .u8 ((a0) % 256)] from rfl) (Reps.one (show Kd.M (Kd.int .u8) _ _ _ ((wrap64 ((a1.size : Int) / 256)) % 256) [.int .u8 ((wrap64 ((a1.size : Int) / 256)) % 256)] from rfl) (Reps.one (show Kd.M (Kd.int .u8) _ _ _ ((a1.size : Int) % 256) [.int .u8 ((a1.size : Int) % 256)] from rfl) (Reps.none _ _))))); intro v193 w11 ho12 hb hg_ hnew_; clear hg_ hnew_; (first | rw [← Ny192.out] at ho12 | (simp only [Int.reduceToNat] at ho12; rw [← Ny192.out] at ho12)); have n0_ := Aside0.mk (Kd.R_lower ho12 (below_size (by repeat (first | (with_reducible first | exact HB.out | apply below_alloc | apply pw_below_drewN | apply below_drew1) | exact HB.out)))); have n1_ := Aside0.mk (below_step (by repeat (first | (with_reducible first | exact HB.out | apply below_alloc | apply pw_below_drewN | apply below_drew1) | exact HB.out)) hb); clear HB; have HO194 := n0_; have HB := n1_; clear n0_ n1_; clear hb ho12; have hcv13 := own_string (P := Try.prog) Try.underlying84 Try.underlying5 Try.underlying9 (Kd.own_of_R HO194.out)) | ((with_reducible refine gate_callee (f := 51) rfl ?_); refine goesL_ (some 32) rfl rfl Try.func51 (by kernel_rfl) rfl #[.int .u32 0, .string ((strOfNums y192) ++ a1)] rfl (by (try simp only [List.map_toArray, List.map_cons, List.map_nil]); first | done | rfl | (simp only [List.length_drop, List.length_take]; rfl)) ?_; (with_reducible refine (counterfoilref02_On.calls kj2 0 ((strOfNums y192) ++ a1) t195 _ A8.out).mono ?_); rintro e w' ⟨rfl, ⟨nd, rfl⟩⟩; refine ⟨_, rfl, ?_⟩) | ((with_reducible refine gate_callee (f := 50) rfl ?_); refine goesL_ (some 33) rfl rfl Try.func50 (by kernel_rfl) rfl #[.int .u32 t195] rfl (by (try simp only [List.map_toArray, List.map_cons, List.map_nil]); first | done | rfl | (simp only [List.length_drop, List.length_take]; rfl)) ?_; (with_reducible refine (counterfoilref02_Four.calls t195 t196 _ A9.out).mono ?_); rintro e w14 ⟨rfl, hb⟩; refine ⟨_, rfl, ?_⟩; have n0_ := Aside0.mk (Kd.R_below (by (with_reducible repeat (first | apply Kd.R_alloc | apply Kd.R_drewN | apply Kd.R_drew)); exact HO194.out) hb); have n1_ := Aside0.mk (below_step (by repeat (first | (with_reducible first | exact HB.out | apply below_alloc | apply pw_below_drewN | apply below_drew1) | exact HB.out)) hb); clear HO194; clear HB; have HO194 := n0_; have HB := n1_; clear n0_ n1_; (try clear hb); (try clear hb2); (try clear hk); (try clear hi)))
              go_ret2
              exact ⟨by first | rfl | (simp [errW_none, errW_some] <;> rfl) | (simp [*, errW_none, errW_some] <;> rfl), by repeat (first | (with_reducible first | exact HB.out | apply below_alloc | apply pw_below_drewN | apply below_drew1) | exact HB.out)⟩
            · rw [if_neg c10] at H
              exact absurd H (by simp)
          · rw [if_neg c7] at H
            exact absurd H (by simp)

/-! ### counterfoilref15_Packet: function 37 -/
def counterfoilref15_Packet.f (k : Nat) (a0_0 : Int) (a0_1 : Int) (a0_2 : Int) (a0_3 : Int) (l0_4 : List ByteArray) (a1 : Int) (a2 : Int) (a3 : ByteArray) : Option (ByteArray) := (counterfoilref01_Put.f k a0_0 8).bind fun bt198 => ((counterfoilref01_Put.f k a0_1 8).bind fun bt200 => ((counterfoilref01_Put.f k a2 8).bind fun bt202 => ((counterfoilref01_Put.f k a0_3 8).bind fun bt204 => (if bt198.1.size + bt200.1.size ≤ 9223372036854775807 then (if (bt198.1 ++ bt200.1).size + bt202.1.size ≤ 9223372036854775807 then (if ((bt198.1 ++ bt200.1) ++ bt202.1).size + bt204.1.size ≤ 9223372036854775807 then (if (((bt198.1 ++ bt200.1) ++ bt202.1) ++ bt204.1).size + a3.size ≤ 9223372036854775807 then ((counterfoilref03_Seal.f k a1 ((((bt198.1 ++ bt200.1) ++ bt202.1) ++ bt204.1) ++ a3)).bind fun bt206 => (some bt206.1)) else (none)) else (none)) else (none)) else (none)))))
theorem counterfoilref15_Packet.mono : ∀ a0 a1 a2 a3 a4 a5 a6 a7 k, LeO (counterfoilref15_Packet.f k a0 a1 a2 a3 a4 a5 a6 a7) (counterfoilref15_Packet.f (k + 1) a0 a1 a2 a3 a4 a5 a6 a7) := by
  intro a0 a1 a2 a3 a4 a5 a6 a7 k
  unfold counterfoilref15_Packet.f
  repeat' first
      | (with_reducible exact counterfoilref01_Put.mono _ _ _)
      | (with_reducible exact counterfoilref03_Seal.mono _ _ _)
      | (with_reducible exact LeO.refl _)
      | (with_reducible exact LeO.none _)
      | (with_reducible refine LeO.ite ?_ ?_)
      | (with_reducible refine LeO.bind ?_ (fun _ => ?_))
      | exact counterfoilref01_Put.mono _ _ _
      | exact counterfoilref03_Seal.mono _ _ _
      | exact LeO.none _
      | refine LeO.ite ?_ ?_
      | refine LeO.bind ?_ (fun _ => ?_)
set_option maxHeartbeats 8000000 in
set_option maxRecDepth 100000 in
theorem counterfoilref15_Packet.calls (k : Nat) (a0_0 : Int) (a0_1 : Int) (a0_2 : Int) (a0_3 : Int) (A0_4 : Option Addr) (c0_4 : Nat) (l0_4 : List ByteArray) (a1 : Int) (a2 : Int) (a3 : ByteArray) (r : ByteArray) (w : World) (hr0_4 : Kd.C Kd.string w A0_4 l0_4.length l0_4) (hc0_4 : l0_4.length ≤ c0_4) (h : counterfoilref15_Packet.f k a0_0 a0_1 a0_2 a0_3 l0_4 a1 a2 a3 = some r) :
    Calls Try.prog 37 #[.agg #[.int .i64 a0_0, .int .i64 a0_1, .int .i64 a0_2, .int .i64 a0_3, .slice A0_4 l0_4.length c0_4], .int .i64 a1, .int .i64 a2, .string a3] w fun e w' => e = .returned (.string r) ∧ Below w.heap.size w w' := by
  have hu33 := Try.underlying33
  have HR0_4 := Aside0.mk hr0_4
  have HC0_4 := Aside0.mk hc0_4
  clear hr0_4 hc0_4
  have HB := Aside0.mk (Below.refl w.heap.size w)
  have H : ((counterfoilref01_Put.f k a0_0 8).bind fun bt198 => ((counterfoilref01_Put.f k a0_1 8).bind fun bt200 => ((counterfoilref01_Put.f k a2 8).bind fun bt202 => ((counterfoilref01_Put.f k a0_3 8).bind fun bt204 => (if bt198.1.size + bt200.1.size ≤ 9223372036854775807 then (if (bt198.1 ++ bt200.1).size + bt202.1.size ≤ 9223372036854775807 then (if ((bt198.1 ++ bt200.1) ++ bt202.1).size + bt204.1.size ≤ 9223372036854775807 then (if (((bt198.1 ++ bt200.1) ++ bt202.1) ++ bt204.1).size + a3.size ≤ 9223372036854775807 then ((counterfoilref03_Seal.f k a1 ((((bt198.1 ++ bt200.1) ++ bt202.1) ++ bt204.1) ++ a3)).bind fun bt206 => (some bt206.1)) else (none)) else (none)) else (none)) else (none)))))) = some r := h
  clear h
  replace H := Option.bind_eq_some_iff.mp H
  obtain ⟨⟨t198, t199⟩, A50, H⟩ := H
  replace H : ((counterfoilref01_Put.f k a0_1 8).bind fun bt200 => ((counterfoilref01_Put.f k a2 8).bind fun bt202 => ((counterfoilref01_Put.f k a0_3 8).bind fun bt204 => (if t198.size + bt200.1.size ≤ 9223372036854775807 then (if (t198 ++ bt200.1).size + bt202.1.size ≤ 9223372036854775807 then (if ((t198 ++ bt200.1) ++ bt202.1).size + bt204.1.size ≤ 9223372036854775807 then (if (((t198 ++ bt200.1) ++ bt202.1) ++ bt204.1).size + a3.size ≤ 9223372036854775807 then ((counterfoilref03_Seal.f k a1 ((((t198 ++ bt200.1) ++ bt202.1) ++ bt204.1) ++ a3)).bind fun bt206 => (some bt206.1)) else (none)) else (none)) else (none)) else (none))))) = some r := H
  have A5 := Aside0.mk A50
  clear A50
  replace H := Option.bind_eq_some_iff.mp H
  obtain ⟨⟨t200, t201⟩, A60, H⟩ := H
  replace H : ((counterfoilref01_Put.f k a2 8).bind fun bt202 => ((counterfoilref01_Put.f k a0_3 8).bind fun bt204 => (if t198.size + t200.size ≤ 9223372036854775807 then (if (t198 ++ t200).size + bt202.1.size ≤ 9223372036854775807 then (if ((t198 ++ t200) ++ bt202.1).size + bt204.1.size ≤ 9223372036854775807 then (if (((t198 ++ t200) ++ bt202.1) ++ bt204.1).size + a3.size ≤ 9223372036854775807 then ((counterfoilref03_Seal.f k a1 ((((t198 ++ t200) ++ bt202.1) ++ bt204.1) ++ a3)).bind fun bt206 => (some bt206.1)) else (none)) else (none)) else (none)) else (none)))) = some r := H
  have A6 := Aside0.mk A60
  clear A60
  replace H := Option.bind_eq_some_iff.mp H
  obtain ⟨⟨t202, t203⟩, A70, H⟩ := H
  replace H : ((counterfoilref01_Put.f k a0_3 8).bind fun bt204 => (if t198.size + t200.size ≤ 9223372036854775807 then (if (t198 ++ t200).size + t202.size ≤ 9223372036854775807 then (if ((t198 ++ t200) ++ t202).size + bt204.1.size ≤ 9223372036854775807 then (if (((t198 ++ t200) ++ t202) ++ bt204.1).size + a3.size ≤ 9223372036854775807 then ((counterfoilref03_Seal.f k a1 ((((t198 ++ t200) ++ t202) ++ bt204.1) ++ a3)).bind fun bt206 => (some bt206.1)) else (none)) else (none)) else (none)) else (none))) = some r := H
  have A7 := Aside0.mk A70
  clear A70
  replace H := Option.bind_eq_some_iff.mp H
  obtain ⟨⟨t204, t205⟩, A80, H⟩ := H
  replace H : (if t198.size + t200.size ≤ 9223372036854775807 then (if (t198 ++ t200).size + t202.size ≤ 9223372036854775807 then (if ((t198 ++ t200) ++ t202).size + t204.size ≤ 9223372036854775807 then (if (((t198 ++ t200) ++ t202) ++ t204).size + a3.size ≤ 9223372036854775807 then ((counterfoilref03_Seal.f k a1 ((((t198 ++ t200) ++ t202) ++ t204) ++ a3)).bind fun bt206 => (some bt206.1)) else (none)) else (none)) else (none)) else (none)) = some r := H
  have A8 := Aside0.mk A80
  clear A80
  by_cases c9 : t198.size + t200.size ≤ 9223372036854775807
  · rw [if_pos c9] at H
    have c9b0 := eq_true c9
    have c9b1 : decide (t198.size + t200.size ≤ 9223372036854775807) = true := decide_eq_true c9
    try have c9b2 : (9223372036854775807 < t198.size + t200.size) = False := eq_false (Nat.not_lt.2 c9)
    by_cases c10 : (t198 ++ t200).size + t202.size ≤ 9223372036854775807
    · rw [if_pos c10] at H
      have c10b0 := eq_true c10
      have c10b1 : decide ((t198 ++ t200).size + t202.size ≤ 9223372036854775807) = true := decide_eq_true c10
      try have c10b2 : (9223372036854775807 < (t198 ++ t200).size + t202.size) = False := eq_false (Nat.not_lt.2 c10)
      (try (have c10b2x := c10b2; simp only [ByteArray.size_append] at c10b2x))
      by_cases c11 : ((t198 ++ t200) ++ t202).size + t204.size ≤ 9223372036854775807
      · rw [if_pos c11] at H
        have c11b0 := eq_true c11
        have c11b1 : decide (((t198 ++ t200) ++ t202).size + t204.size ≤ 9223372036854775807) = true := decide_eq_true c11
        try have c11b2 : (9223372036854775807 < ((t198 ++ t200) ++ t202).size + t204.size) = False := eq_false (Nat.not_lt.2 c11)
        (try (have c11b2x := c11b2; simp only [ByteArray.size_append] at c11b2x))
        by_cases c12 : (((t198 ++ t200) ++ t202) ++ t204).size + a3.size ≤ 9223372036854775807
        · rw [if_pos c12] at H
          have c12b0 := eq_true c12
          have c12b1 : decide ((((t198 ++ t200) ++ t202) ++ t204).size + a3.size ≤ 9223372036854775807) = true := decide_eq_true c12
          try have c12b2 : (9223372036854775807 < (((t198 ++ t200) ++ t202) ++ t204).size + a3.size) = False := eq_false (Nat.not_lt.2 c12)
          (try (have c12b2x := c12b2; simp only [ByteArray.size_append] at c12b2x))
          replace H := Option.bind_eq_some_iff.mp H
          obtain ⟨⟨t206, t207⟩, A130, H⟩ := H
          replace H : (some t206) = some r := H
          have A13 := Aside0.mk A130
          clear A130
          obtain rfl := Option.some.inj H
          go_enter Try.func37, Try.ntmps37
          go_wp2_with (first | ((with_reducible refine gate_dst (N := 4) rfl ?_); refine box_event ?hg (N := 4) ?hd (cs := #[.int .i64 a0_0, .int .i64 a0_1, .int .i64 a0_2, .int .i64 a0_3, .slice A0_4 l0_4.length c0_4]) (t := 33) ?hr ?_; (case hd => rfl); (case hg => rfl); (case hr => first | (go_simp; done) | (go_simp; rfl) | (go_simp; simp only [w64m])); intro gb197 hg w14 hbox hb; have n0_ := Aside0.mk (below_step (by repeat (first | (with_reducible first | exact HB.out | apply below_alloc | apply pw_below_drewN | apply below_drew1) | exact HB.out)) hb); have n1_ := Aside0.mk (hbox); have n2_ := Aside0.mk ((by rw [hg]; exact (below_size (by repeat (first | (with_reducible first | exact HB.out | apply below_alloc | apply pw_below_drewN | apply below_drew1) | exact HB.out))) : w.heap.size ≤ gb197)); have n3_ := Aside0.mk ((by rw [hg]; exact (below_size (by repeat (first | (with_reducible first | exact HB.out | apply below_alloc | apply pw_below_drewN | apply below_drew1) | exact HB.out))) : w.heap.size ≤ gb197)); clear HB; have HB := n0_; have BK197 := n1_; have GW197 := n2_; have GE197 := n3_; clear n0_ n1_ n2_ n3_; clear hb hbox hg; have hcz15_0 : w14.cell? ⟨gb197, 0, none⟩ = some (.int .i64 a0_0) := (blk_cell BK197.out 0).trans rfl; have hcz15_1 : w14.cell? ⟨gb197, 1, none⟩ = some (.int .i64 a0_1) := (blk_cell BK197.out 1).trans rfl; have hcz15_2 : w14.cell? ⟨gb197, 2, none⟩ = some (.int .i64 a0_2) := (blk_cell BK197.out 2).trans rfl; have hcz15_3 : w14.cell? ⟨gb197, 3, none⟩ = some (.int .i64 a0_3) := (blk_cell BK197.out 3).trans rfl; have hcz15_4 : w14.cell? ⟨gb197, 4, none⟩ = some (.slice A0_4 l0_4.length c0_4) := (blk_cell BK197.out 4).trans rfl; have hfz15_0 := blk_frozen BK197.out 0; have hfz15_1 := blk_frozen BK197.out 1; have hfz15_2 := blk_frozen BK197.out 2; have hfz15_3 := blk_frozen BK197.out 3; have hfz15_4 := blk_frozen BK197.out 4) | ((with_reducible refine gate_callee (f := 45) rfl ?_); refine goesL_ (some 22) rfl rfl Try.func45 (by kernel_rfl) rfl #[.int .i64 a0_0, .int .i64 8] rfl (by (try simp only [List.map_toArray, List.map_cons, List.map_nil]); first | done | rfl | (simp only [List.length_drop, List.length_take]; rfl)) ?_; (with_reducible refine (counterfoilref01_Put.calls k a0_0 8 t198 t199 _ A5.out).mono ?_); rintro e w16 ⟨rfl, hb⟩; refine ⟨_, rfl, ?_⟩; have n0_ := Aside0.mk (blk_below (g := gb197) (o := .cells #[.int .i64 a0_0, .int .i64 a0_1, .int .i64 a0_2, .int .i64 a0_3, .slice A0_4 l0_4.length c0_4] 33 (0, 0)) (by (with_reducible repeat (first | refine blk_drewN ?_ _ | refine blk_drew ?_ | refine blk_alloc ?_ _)); exact BK197.out) hb); have n1_ := Aside0.mk (below_step (by repeat (first | (with_reducible first | exact HB.out | apply below_alloc | apply pw_below_drewN | apply below_drew1 | refine below_set ?_ GE197.out) | exact HB.out)) hb); clear BK197; clear HB; have BK197 := n0_; have HB := n1_; clear n0_ n1_; (try clear hb); (try clear hb2); (try clear hk); (try clear hi); have hcz17_0 : w16.cell? ⟨gb197, 0, none⟩ = some (.int .i64 a0_0) := (blk_cell BK197.out 0).trans rfl; have hcz17_1 : w16.cell? ⟨gb197, 1, none⟩ = some (.int .i64 a0_1) := (blk_cell BK197.out 1).trans rfl; have hcz17_2 : w16.cell? ⟨gb197, 2, none⟩ = some (.int .i64 a0_2) := (blk_cell BK197.out 2).trans rfl; have hcz17_3 : w16.cell? ⟨gb197, 3, none⟩ = some (.int .i64 a0_3) := (blk_cell BK197.out 3).trans rfl; have hcz17_4 : w16.cell? ⟨gb197, 4, none⟩ = some (.slice A0_4 l0_4.length c0_4) := (blk_cell BK197.out 4).trans rfl; have hfz17_0 := blk_frozen BK197.out 0; have hfz17_1 := blk_frozen BK197.out 1; have hfz17_2 := blk_frozen BK197.out 2; have hfz17_3 := blk_frozen BK197.out 3; have hfz17_4 := blk_frozen BK197.out 4) | ((with_reducible refine gate_callee (f := 45) rfl ?_); refine goesL_ (some 28) rfl rfl Try.func45 (by kernel_rfl) rfl #[.int .i64 a0_1, .int .i64 8] rfl (by (try simp only [List.map_toArray, List.map_cons, List.map_nil]); first | done | rfl | (simp only [List.length_drop, List.length_take]; rfl)) ?_; (with_reducible refine (counterfoilref01_Put.calls k a0_1 8 t200 t201 _ A6.out).mono ?_); rintro e w18 ⟨rfl, hb⟩; refine ⟨_, rfl, ?_⟩; have n0_ := Aside0.mk (blk_below (g := gb197) (o := .cells #[.int .i64 a0_0, .int .i64 a0_1, .int .i64 a0_2, .int .i64 a0_3, .slice A0_4 l0_4.length c0_4] 33 (0, 0)) (by (with_reducible repeat (first | refine blk_drewN ?_ _ | refine blk_drew ?_ | refine blk_alloc ?_ _)); exact BK197.out) hb); have n1_ := Aside0.mk (below_step (by repeat (first | (with_reducible first | exact HB.out | apply below_alloc | apply pw_below_drewN | apply below_drew1 | refine below_set ?_ GE197.out) | exact HB.out)) hb); clear BK197; clear HB; have BK197 := n0_; have HB := n1_; clear n0_ n1_; (try clear hb); (try clear hb2); (try clear hk); (try clear hi)) | ((with_reducible refine gate_callee (f := 45) rfl ?_); refine goesL_ (some 33) rfl rfl Try.func45 (by kernel_rfl) rfl #[.int .i64 a2, .int .i64 8] rfl (by (try simp only [List.map_toArray, List.map_cons, List.map_nil]); first | done | rfl | (simp only [List.length_drop, List.length_take]; rfl)) ?_; (with_reducible refine (counterfoilref01_Put.calls k a2 8 t202 t203 _ A7.out).mono ?_); rintro e w19 ⟨rfl, hb⟩; refine ⟨_, rfl, ?_⟩; have n0_ := Aside0.mk (blk_below (g := gb197) (o := .cells #[.int .i64 a0_0, .int .i64 a0_1, .int .i64 a0_2, .int .i64 a0_3, .slice A0_4 l0_4.length c0_4] 33 (0, 0)) (by (with_reducible repeat (first | refine blk_drewN ?_ _ | refine blk_drew ?_ | refine blk_alloc ?_ _)); exact BK197.out) hb); have n1_ := Aside0.mk (below_step (by repeat (first | (with_reducible first | exact HB.out | apply below_alloc | apply pw_below_drewN | apply below_drew1 | refine below_set ?_ GE197.out) | exact HB.out)) hb); clear BK197; clear HB; have BK197 := n0_; have HB := n1_; clear n0_ n1_; (try clear hb); (try clear hb2); (try clear hk); (try clear hi); have hcz20_0 : w19.cell? ⟨gb197, 0, none⟩ = some (.int .i64 a0_0) := (blk_cell BK197.out 0).trans rfl; have hcz20_1 : w19.cell? ⟨gb197, 1, none⟩ = some (.int .i64 a0_1) := (blk_cell BK197.out 1).trans rfl; have hcz20_2 : w19.cell? ⟨gb197, 2, none⟩ = some (.int .i64 a0_2) := (blk_cell BK197.out 2).trans rfl; have hcz20_3 : w19.cell? ⟨gb197, 3, none⟩ = some (.int .i64 a0_3) := (blk_cell BK197.out 3).trans rfl; have hcz20_4 : w19.cell? ⟨gb197, 4, none⟩ = some (.slice A0_4 l0_4.length c0_4) := (blk_cell BK197.out 4).trans rfl; have hfz20_0 := blk_frozen BK197.out 0; have hfz20_1 := blk_frozen BK197.out 1; have hfz20_2 := blk_frozen BK197.out 2; have hfz20_3 := blk_frozen BK197.out 3; have hfz20_4 := blk_frozen BK197.out 4) | ((with_reducible refine gate_callee (f := 45) rfl ?_); refine goesL_ (some 39) rfl rfl Try.func45 (by kernel_rfl) rfl #[.int .i64 a0_3, .int .i64 8] rfl (by (try simp only [List.map_toArray, List.map_cons, List.map_nil]); first | done | rfl | (simp only [List.length_drop, List.length_take]; rfl)) ?_; (with_reducible refine (counterfoilref01_Put.calls k a0_3 8 t204 t205 _ A8.out).mono ?_); rintro e w21 ⟨rfl, hb⟩; refine ⟨_, rfl, ?_⟩; have n0_ := Aside0.mk (blk_below (g := gb197) (o := .cells #[.int .i64 a0_0, .int .i64 a0_1, .int .i64 a0_2, .int .i64 a0_3, .slice A0_4 l0_4.length c0_4] 33 (0, 0)) (by (with_reducible repeat (first | refine blk_drewN ?_ _ | refine blk_drew ?_ | refine blk_alloc ?_ _)); exact BK197.out) hb); have n1_ := Aside0.mk (below_step (by repeat (first | (with_reducible first | exact HB.out | apply below_alloc | apply pw_below_drewN | apply below_drew1 | refine below_set ?_ GE197.out) | exact HB.out)) hb); clear BK197; clear HB; have BK197 := n0_; have HB := n1_; clear n0_ n1_; (try clear hb); (try clear hb2); (try clear hk); (try clear hi)) | ((with_reducible refine gate_callee (f := 46) rfl ?_); refine goesL_ (some 53) rfl rfl Try.func46 (by kernel_rfl) rfl #[.int .i64 a1, .string ((((t198 ++ t200) ++ t202) ++ t204) ++ a3)] rfl (by (try simp only [List.map_toArray, List.map_cons, List.map_nil]); first | done | rfl | (simp only [List.length_drop, List.length_take]; rfl)) ?_; (with_reducible refine (counterfoilref03_Seal.calls k a1 ((((t198 ++ t200) ++ t202) ++ t204) ++ a3) t206 t207 _ A13.out).mono ?_); rintro e w22 ⟨rfl, hb⟩; refine ⟨_, rfl, ?_⟩; have n0_ := Aside0.mk (blk_below (g := gb197) (o := .cells #[.int .i64 a0_0, .int .i64 a0_1, .int .i64 a0_2, .int .i64 a0_3, .slice A0_4 l0_4.length c0_4] 33 (0, 0)) (by (with_reducible repeat (first | refine blk_drewN ?_ _ | refine blk_drew ?_ | refine blk_alloc ?_ _)); exact BK197.out) hb); have n1_ := Aside0.mk (below_step (by repeat (first | (with_reducible first | exact HB.out | apply below_alloc | apply pw_below_drewN | apply below_drew1 | refine below_set ?_ GE197.out) | exact HB.out)) hb); clear BK197; clear HB; have BK197 := n0_; have HB := n1_; clear n0_ n1_; (try clear hb); (try clear hb2); (try clear hk); (try clear hi)))
          go_ret
          exact ⟨by first | rfl | (simp [errW_none, errW_some] <;> rfl) | (simp [*, errW_none, errW_some] <;> rfl), by repeat (first | (with_reducible first | exact HB.out | apply below_alloc | apply pw_below_drewN | apply below_drew1 | refine below_set ?_ GE197.out) | exact HB.out)⟩
        · rw [if_neg c12] at H
          exact absurd H (by simp)
      · rw [if_neg c11] at H
        exact absurd H (by simp)
    · rw [if_neg c10] at H
      exact absurd H (by simp)
  · rw [if_neg c9] at H
    exact absurd H (by simp)

end Go.Proofs.Ytgfmdfgibkkfaaa.P
