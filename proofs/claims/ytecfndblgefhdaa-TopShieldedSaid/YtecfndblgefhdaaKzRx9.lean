import Derived.Test.YtecfndblgefhdaaKzRx3
import Derived.Test.YtecfndblgefhdaaKzRx8
namespace Go.Proofs.Ytecfndblgefhdaa.R
open Go.RowKit Go.Proofs.YtecfndblgefhdaaW.PrintWords Go.Proofs.YtecfndblgefhdaaW.PrintLast Go.Proofs.YtecfndblgefhdaaW.PrintMore
attribute [local go_sem] max2_int min2_int max_two min_two max_three min_three max_four min_four
set_option linter.unusedVariables false
set_option linter.unusedSimpArgs false
theorem qrx90_ {p : Prop} (h : p := by exact ⟨z2_, z78_, z3_, z77_⟩) : p := h
mutual
def api_Write_116.l0 : Nat → List (S120) → Int → Int → Int → Option ((List (S120)))
 | 0, _, _, _, _ => none
 | k + 1, x0, x1, x10, x11 => if x10 < x11 then (if 0 ≤ (wrap64 ((IntKind.u64.wrap (wrap64 (x10 + x11))) / 2)) then (if (wrap64 ((IntKind.u64.wrap (wrap64 (x10 + x11))) / 2)) < (x0.length : Int) then (if 0 ≤ x1 then (if x1 < (x0.length : Int) then ((fold_order.f k ((rd_T120 x0 (wrap64 ((IntKind.u64.wrap (wrap64 (x10 + x11))) / 2))).f0) ((rd_T120 x0 (wrap64 ((IntKind.u64.wrap (wrap64 (x10 + x11))) / 2))).f1) ((rd_T120 x0 (wrap64 ((IntKind.u64.wrap (wrap64 (x10 + x11))) / 2))).f2) ((rd_T120 x0 x1).f0) ((rd_T120 x0 x1).f1) ((rd_T120 x0 x1).f2)).bind fun t176 => (if t176 < 0 then (api_Write_116.l0 k x0 x1 (wrap64 ((wrap64 ((IntKind.u64.wrap (wrap64 (x10 + x11))) / 2)) + 1)) x11) else (api_Write_116.l0 k x0 x1 x10 (wrap64 ((IntKind.u64.wrap (wrap64 (x10 + x11))) / 2))))) else (none)) else (none)) else (none)) else (none)) else (api_Write_116.l1 k x0 x10 x1)
def api_Write_116.l1 : Nat → List (S120) → Int → Int → Option ((List (S120)))
 | 0, _, _, _ => none
 | k + 1, x0, x10, x13 => if x13 < (wrap64 (x10 - 1)) then (if 0 ≤ (wrap64 (x13 + 1)) then (if (wrap64 (x13 + 1)) < (x0.length : Int) then (if 0 ≤ x13 then (if x13 < (x0.length : Int) then (api_Write_116.l1 k ((x0.set (x13 : Int).toNat (⟨(rd_T120 x0 (wrap64 (x13 + 1))).f0, (rd_T120 x0 (wrap64 (x13 + 1))).f1, (rd_T120 x0 (wrap64 (x13 + 1))).f2⟩ : S120)).set ((wrap64 (x13 + 1)) : Int).toNat (⟨(rd_T120 x0 x13).f0, (rd_T120 x0 x13).f1, (rd_T120 x0 x13).f2⟩ : S120)) x10 (wrap64 (x13 + 1))) else (none)) else (none)) else (none)) else (none)) else (some x0)
def api_Write_116.l2 : Nat → List (S120) → Int → Int → Int → Option ((List (S120)))
 | 0, _, _, _, _ => none
 | k + 1, x0, x2, x14, x15 => if x14 < x15 then (if 0 ≤ x2 then (if x2 < (x0.length : Int) then (if 0 ≤ (wrap64 ((IntKind.u64.wrap (wrap64 (x14 + x15))) / 2)) then (if (wrap64 ((IntKind.u64.wrap (wrap64 (x14 + x15))) / 2)) < (x0.length : Int) then ((fold_order.f k ((rd_T120 x0 x2).f0) ((rd_T120 x0 x2).f1) ((rd_T120 x0 x2).f2) ((rd_T120 x0 (wrap64 ((IntKind.u64.wrap (wrap64 (x14 + x15))) / 2))).f0) ((rd_T120 x0 (wrap64 ((IntKind.u64.wrap (wrap64 (x14 + x15))) / 2))).f1) ((rd_T120 x0 (wrap64 ((IntKind.u64.wrap (wrap64 (x14 + x15))) / 2))).f2)).bind fun t183 => (if t183 < 0 then (api_Write_116.l2 k x0 x2 x14 (wrap64 ((IntKind.u64.wrap (wrap64 (x14 + x15))) / 2))) else (api_Write_116.l2 k x0 x2 (wrap64 ((wrap64 ((IntKind.u64.wrap (wrap64 (x14 + x15))) / 2)) + 1)) x15))) else (none)) else (none)) else (none)) else (none)) else (api_Write_116.l3 k x0 x14 x2)
def api_Write_116.l3 : Nat → List (S120) → Int → Int → Option ((List (S120)))
 | 0, _, _, _ => none
 | k + 1, x0, x14, x17 => if x17 > x14 then (if 0 ≤ (wrap64 (x17 - 1)) then (if (wrap64 (x17 - 1)) < (x0.length : Int) then (if 0 ≤ x17 then (if x17 < (x0.length : Int) then (api_Write_116.l3 k ((x0.set (x17 : Int).toNat (⟨(rd_T120 x0 (wrap64 (x17 - 1))).f0, (rd_T120 x0 (wrap64 (x17 - 1))).f1, (rd_T120 x0 (wrap64 (x17 - 1))).f2⟩ : S120)).set ((wrap64 (x17 - 1)) : Int).toNat (⟨(rd_T120 x0 x17).f0, (rd_T120 x0 x17).f1, (rd_T120 x0 x17).f2⟩ : S120)) x14 (wrap64 (x17 - 1))) else (none)) else (none)) else (none)) else (none)) else (some x0)
def api_Write_116.j4 : Nat → List (S120) → Int → Int → Int → Nat → Int → Int → Int → Int → Option ((List (S120)))
 | 0, _, _, _, _, _, _, _, _, _ => none
 | k + 1, x0, x1, x2, x3, x4, x18, x19, x20, x21 => api_Write_116.l4 k x0 x1 x2 x3 x4 x18 x19 x20 x21 (wrap64 (x19 - 1))
def api_Write_116.l4 : Nat → List (S120) → Int → Int → Int → Nat → Int → Int → Int → Int → Int → Option ((List (S120)))
 | 0, _, _, _, _, _, _, _, _, _, _ => none
 | k + 1, x0, x1, x2, x3, x4, x18, x19, x20, x21, x22 => if x20 < x21 then (if 0 ≤ (wrap64 (x22 - (wrap64 ((IntKind.u64.wrap (wrap64 (x20 + x21))) / 2)))) then (if (wrap64 (x22 - (wrap64 ((IntKind.u64.wrap (wrap64 (x20 + x21))) / 2)))) < (x0.length : Int) then (if 0 ≤ (wrap64 ((IntKind.u64.wrap (wrap64 (x20 + x21))) / 2)) then (if (wrap64 ((IntKind.u64.wrap (wrap64 (x20 + x21))) / 2)) < (x0.length : Int) then ((fold_order.f k ((rd_T120 x0 (wrap64 (x22 - (wrap64 ((IntKind.u64.wrap (wrap64 (x20 + x21))) / 2))))).f0) ((rd_T120 x0 (wrap64 (x22 - (wrap64 ((IntKind.u64.wrap (wrap64 (x20 + x21))) / 2))))).f1) ((rd_T120 x0 (wrap64 (x22 - (wrap64 ((IntKind.u64.wrap (wrap64 (x20 + x21))) / 2))))).f2) ((rd_T120 x0 (wrap64 ((IntKind.u64.wrap (wrap64 (x20 + x21))) / 2))).f0) ((rd_T120 x0 (wrap64 ((IntKind.u64.wrap (wrap64 (x20 + x21))) / 2))).f1) ((rd_T120 x0 (wrap64 ((IntKind.u64.wrap (wrap64 (x20 + x21))) / 2))).f2)).bind fun t190 => (if t190 < 0 then (api_Write_116.l4 k x0 x1 x2 x3 x4 x18 x19 x20 (wrap64 ((IntKind.u64.wrap (wrap64 (x20 + x21))) / 2)) x22) else (api_Write_116.l4 k x0 x1 x2 x3 x4 x18 x19 (wrap64 ((wrap64 ((IntKind.u64.wrap (wrap64 (x20 + x21))) / 2)) + 1)) x21 x22))) else (none)) else (none)) else (none)) else (none)) else (if x20 < x2 then (api_Write_116.j6 k x0 x1 x2 x3 x4 x18 x20 (wrap64 (x19 - x20)) (decide (x2 < (wrap64 (x19 - x20))))) else (api_Write_116.j6 k x0 x1 x2 x3 x4 x18 x20 (wrap64 (x19 - x20)) false))
def api_Write_116.j6 : Nat → List (S120) → Int → Int → Int → Nat → Int → Int → Int → Bool → Option ((List (S120)))
 | 0, _, _, _, _, _, _, _, _, _ => none
 | k + 1, x0, x1, x2, x3, x4, x18, x20, x24, x185 => if x185 = true then ((api_Write_120.f k x0 x20 x2 x24 x4).bind fun t191 => (api_Write_116.j7 k t191 x1 x3 x4 x18 x20 x24)) else (api_Write_116.j7 k x0 x1 x3 x4 x18 x20 x24)
def api_Write_116.j7 : Nat → List (S120) → Int → Int → Nat → Int → Int → Int → Option ((List (S120)))
 | 0, _, _, _, _, _, _, _ => none
 | k + 1, x0, x1, x3, x4, x18, x20, x24 => if x1 < x20 then (api_Write_116.j8 k x0 x1 x3 x4 x18 x20 x24 (decide (x20 < x18))) else (api_Write_116.j8 k x0 x1 x3 x4 x18 x20 x24 false)
def api_Write_116.j8 : Nat → List (S120) → Int → Int → Nat → Int → Int → Int → Bool → Option ((List (S120)))
 | 0, _, _, _, _, _, _, _, _ => none
 | k + 1, x0, x1, x3, x4, x18, x20, x24, x199 => if x199 = true then ((api_Write_116.f k x0 x1 x20 x18 x4).bind fun t192 => (if x18 < x24 then (if x24 < x3 then ((api_Write_116.f k t192 x18 x24 x3 x4).bind fun t193 => (some t193)) else (some t192)) else (some t192))) else (if x18 < x24 then (if x24 < x3 then ((api_Write_116.f k x0 x18 x24 x3 x4).bind fun t194 => (some t194)) else (some x0)) else (some x0))
def api_Write_116.f : Nat → List (S120) → Int → Int → Int → Nat → Option ((List (S120)))
 | 0, _, _, _, _, _ => none
 | k + 1, l0, a1, a2, a3, a4 => if (wrap64 (a2 - a1)) = 1 then (api_Write_116.l0 k l0 a1 a2 a3) else (if (wrap64 (a3 - a2)) = 1 then (api_Write_116.l2 k l0 a2 a1 a2) else (if a2 > (wrap64 ((IntKind.u64.wrap (wrap64 (a1 + a3))) / 2)) then (api_Write_116.j4 k l0 a1 a2 a3 a4 (wrap64 ((IntKind.u64.wrap (wrap64 (a1 + a3))) / 2)) (wrap64 ((wrap64 ((IntKind.u64.wrap (wrap64 (a1 + a3))) / 2)) + a2)) (wrap64 ((wrap64 ((wrap64 ((IntKind.u64.wrap (wrap64 (a1 + a3))) / 2)) + a2)) - a3)) (wrap64 ((IntKind.u64.wrap (wrap64 (a1 + a3))) / 2))) else (api_Write_116.j4 k l0 a1 a2 a3 a4 (wrap64 ((IntKind.u64.wrap (wrap64 (a1 + a3))) / 2)) (wrap64 ((wrap64 ((IntKind.u64.wrap (wrap64 (a1 + a3))) / 2)) + a2)) a1 a2)))
end
def api_Write_116.T5 : Bool × List (List Nat × List Nat) := (true, [([], []), ([], []), ([], []), ([1, 2], [1, 2]), ([3], [3]), ([], []), ([], []), ([5, 6], [5, 6]), ([7], [7]), ([0, 4, 8], [0, 4, 8]), ([9], [9])])
def api_Write_116.B5 : List Nat := [0, 0, 0, 6, 14, 0, 0, 96, 224, 511, 1023]
theorem api_Write_116.tab5 : rtab .any (opsOf Try.f116 5) = api_Write_116.T5 := by kernel_rfl
theorem api_Write_116.bits5 : waitsOk api_Write_116.T5.2 api_Write_116.B5 = true := by kernel_rfl
def api_Write_116.T11 : Bool × List (List Nat × List Nat) := (true, [([], []), ([], []), ([], []), ([], []), ([3], [3]), ([], []), ([], []), ([6], [6]), ([5, 7], [5, 7]), ([8], [8]), ([], []), ([], []), ([10, 11], [10, 11]), ([12], [12]), ([0, 1, 0, 1, 5, 6, 7, 8, 9, 13], [0, 1]), ([14, 9, 0, 1, 5, 6, 7, 8, 9, 13], [9, 14]), ([2, 4, 0, 1, 2, 3, 4, 5, 6, 7, 8, 9, 10, 11, 12, 13, 14, 15], [2, 4]), ([16, 13, 15, 0, 1, 2, 3, 4, 5, 6, 7, 8, 9, 10, 11, 12, 13, 14, 15], [13, 16])])
def api_Write_116.B11 : List Nat := [0, 0, 0, 0, 8, 0, 0, 64, 224, 480, 0, 0, 3072, 7168, 16355, 32739, 65535, 131071]
theorem api_Write_116.tab11 : rtab .any (opsOf Try.f116 11) = api_Write_116.T11 := by kernel_rfl
theorem api_Write_116.bits11 : waitsOk api_Write_116.T11.2 api_Write_116.B11 = true := by kernel_rfl
def api_Write_116.T17 : Bool × List (List Nat × List Nat) := (true, [([], []), ([], []), ([], []), ([1, 2], [1, 2]), ([3], [3]), ([], []), ([], []), ([5, 6], [5, 6]), ([7], [7]), ([0, 4, 8], [0, 4, 8]), ([9], [9]), ([10], [10])])
def api_Write_116.B17 : List Nat := [0, 0, 0, 6, 14, 0, 0, 96, 224, 511, 1023, 2047]
theorem api_Write_116.tab17 : rtab .any (opsOf Try.f116 17) = api_Write_116.T17 := by kernel_rfl
theorem api_Write_116.bits17 : waitsOk api_Write_116.T17.2 api_Write_116.B17 = true := by kernel_rfl
def api_Write_116.T23 : Bool × List (List Nat × List Nat) := (true, [([], []), ([], []), ([], []), ([], []), ([3], [3]), ([], []), ([], []), ([6], [6]), ([5, 7], [5, 7]), ([8], [8]), ([], []), ([], []), ([10, 11], [10, 11]), ([12], [12]), ([0, 1, 0, 1, 5, 6, 7, 8, 9, 13], [0, 1]), ([14, 9, 0, 1, 5, 6, 7, 8, 9, 13], [9, 14]), ([2, 4, 0, 1, 2, 3, 4, 5, 6, 7, 8, 9, 10, 11, 12, 13, 14, 15], [2, 4]), ([16, 13, 15, 0, 1, 2, 3, 4, 5, 6, 7, 8, 9, 10, 11, 12, 13, 14, 15], [13, 16])])
def api_Write_116.B23 : List Nat := [0, 0, 0, 0, 8, 0, 0, 64, 224, 480, 0, 0, 3072, 7168, 16355, 32739, 65535, 131071]
theorem api_Write_116.tab23 : rtab .any (opsOf Try.f116 23) = api_Write_116.T23 := by kernel_rfl
theorem api_Write_116.bits23 : waitsOk api_Write_116.T23.2 api_Write_116.B23 = true := by kernel_rfl
def api_Write_116.T35 : Bool × List (List Nat × List Nat) := (true, [([], []), ([], []), ([], []), ([], []), ([2, 3], [2, 3]), ([1, 4], [1, 4]), ([5], [5]), ([], []), ([], []), ([7, 8], [7, 8]), ([9], [9]), ([0, 6, 10], [0, 6, 10]), ([11], [11]), ([12], [12])])
def api_Write_116.B35 : List Nat := [0, 0, 0, 0, 12, 30, 62, 0, 0, 384, 896, 2047, 4095, 8191]
theorem api_Write_116.tab35 : rtab .any (opsOf Try.f116 35) = api_Write_116.T35 := by kernel_rfl
theorem api_Write_116.bits35 : waitsOk api_Write_116.T35.2 api_Write_116.B35 = true := by kernel_rfl
set_option maxHeartbeats 8000000 in
set_option maxRecDepth 100000 in
theorem api_Write_116.calls (k : Nat) : ∀ (P0_ : Nat → Prop) (u9000_ : Value) (l0 : List (S120)) (a1 : Int) (a2 : Int) (a3 : Int) (a4 : Nat) (r : List (S120)) (w0 w : World) (hB : Below w0.heap.size w0 w) (ho0 : Kd.R k120 120 w w0.heap.size P0_ u9000_ l0) (h : api_Write_116.f k l0 a1 a2 a3 a4 = some r) (h93 : a4 = 93 := by rfl),
  Calls Try.prog 116 #[u9000_, .int .i64 a1, .int .i64 a2, .int .i64 a3, .func (.func a4) #[] #[]] w fun e w' => e = .returned (.tuple #[]) ∧ Kd.R k120 120 w' w0.heap.size (fun k_ => (P0_ k_ ∨ w.heap.size ≤ k_)) u9000_ r ∧ Below w0.heap.size w0 w' ∧ Kept w w' (fun k_ => P0_ k_) := by
 induction k using Nat.strongRecOn with
 | _ k ih =>
 intro P0_ u9000_ l0 a1 a2 a3 a4 r w0 w hB ho0 h h93
 subst h93
 cases k with
 | zero => exact absurd h (by simp [api_Write_116.f])
 | succ k =>
 simp only [api_Write_116.f] at h
 have hu120 := Try.underlying120
 have HO0 := a0_ (show Kd.R k120 120 w w0.heap.size (fun k_ => (P0_ k_ ∨ w.heap.size ≤ k_)) u9000_ l0 from Kd.R_mono ho0 (fun k_ hk => (.inl hk)))
 have HK := a0_ (Kept.refl w (fun k_ => P0_ k_))
 have HW0 := a0_ hB.size
 have HB := a0_ hB
 clear hB
 have H : (if (wrap64 (a2 - a1)) = 1 then (api_Write_116.l0 k l0 a1 a2 a3) else (if (wrap64 (a3 - a2)) = 1 then (api_Write_116.l2 k l0 a2 a1 a2) else (if a2 > (wrap64 ((IntKind.u64.wrap (wrap64 (a1 + a3))) / 2)) then (api_Write_116.j4 k l0 a1 a2 a3 93 (wrap64 ((IntKind.u64.wrap (wrap64 (a1 + a3))) / 2)) (wrap64 ((wrap64 ((IntKind.u64.wrap (wrap64 (a1 + a3))) / 2)) + a2)) (wrap64 ((wrap64 ((wrap64 ((IntKind.u64.wrap (wrap64 (a1 + a3))) / 2)) + a2)) - a3)) (wrap64 ((IntKind.u64.wrap (wrap64 (a1 + a3))) / 2))) else (api_Write_116.j4 k l0 a1 a2 a3 93 (wrap64 ((IntKind.u64.wrap (wrap64 (a1 + a3))) / 2)) (wrap64 ((wrap64 ((IntKind.u64.wrap (wrap64 (a1 + a3))) / 2)) + a2)) a1 a2)))) = some r := h
 clear h
 by_cases c6 : (wrap64 (a2 - a1)) = 1
 ·as_aux_lemma =>
   rw [if_pos c6] at H
   have c6b0 : ((wrap64 (a2 - a1)) == 1) = true := beq_iff_eq.mpr c6
   have c6b1 : ((wrap64 (a2 - a1)) != 1) = false := bne_eq_false_iff_eq.mpr c6
   clear c6
   have H' := a0_ H
   clear H
   go_enter Try.func116, Try.ntmps116
   go_wp2
   go_loopg [10, 11] k (fun kq v10 v11 w' => ∃ (x10_1 : Int) (x11_1 : Int), v10 = .int .i64 x10_1 ∧ v11 = .int .i64 x11_1 ∧ Aside0 (api_Write_116.l0 kq l0 a1 x10_1 x11_1 = some r) ∧ Aside0 (kq ≤ k) ∧ Aside0 (Kd.R k120 120 w' w0.heap.size (fun k_ => (P0_ k_ ∨ w.heap.size ≤ k_)) u9000_ l0) ∧ Aside0 (Kept w w' (fun k_ => P0_ k_)) ∧ Aside0 (Below w0.heap.size w0 w'))
   case atStart => exact ⟨(a2), (a3), z4_, z4_, H', ⟨Nat.le_refl _⟩, ⟨z76_⟩, ⟨z77_⟩, ⟨z3_⟩⟩
   case round =>
    clear H'
    obtain ⟨x10_1, x11_1, rfl, rfl, HA, HK1, HO_0, HK, HB⟩ := hrel
    cases gk with
    | zero => exact absurd HA.out (by simp [api_Write_116.l0])
    | succ k1 =>
     have H := HA.out
     clear HA
     simp only [api_Write_116.l0] at H
     by_cases c7 : x10_1 < x11_1
     ·rw [if_pos c7] at H
      have c7b0 : decide (x10_1 < x11_1) = true := decide_eq_true c7
      clear c7
      obtain ⟨ji8, hji8⟩ : ∃ j_ : Int, (wrap64 ((IntKind.u64.wrap (wrap64 (x10_1 + x11_1))) / 2)) = j_ := ⟨_, rfl⟩
      replace H : (if 0 ≤ (ji8) then (if (ji8) < (l0.length : Int) then (if 0 ≤ a1 then (if a1 < (l0.length : Int) then ((fold_order.f k1 ((rd_T120 l0 (ji8)).f0) ((rd_T120 l0 (ji8)).f1) ((rd_T120 l0 (ji8)).f2) ((rd_T120 l0 a1).f0) ((rd_T120 l0 a1).f1) ((rd_T120 l0 a1).f2)).bind fun t176 => (if t176 < 0 then (api_Write_116.l0 k1 l0 a1 (wrap64 ((ji8) + 1)) x11_1) else (api_Write_116.l0 k1 l0 a1 x10_1 ji8))) else (none)) else (none)) else (none)) else (none)) = some r := by first | (rw [hji8] at H; exact H) | (simp only [hji8] at H ⊢; exact H)
      have hji8w : (IntKind.i64.wrap ((IntKind.u64.wrap (wrap64 (x10_1 + x11_1))) / 2)) = ji8 := (i64_w _).trans hji8
      by_cases c9 : 0 ≤ (ji8)
      ·rw [if_pos c9] at H
       have c9b0 : decide (0 ≤ (ji8)) = true := decide_eq_true c9
       clear c9
       by_cases c10 : (ji8) < (l0.length : Int)
       ·rw [if_pos c10] at H
        have c10b0 : decide ((ji8) < (l0.length : Int)) = true := decide_eq_true c10
        clear c10
        by_cases c11 : 0 ≤ a1
        ·rw [if_pos c11] at H
         have c11b0 : decide (0 ≤ a1) = true := decide_eq_true c11
         clear c11
         by_cases c12 : a1 < (l0.length : Int)
         ·rw [if_pos c12] at H
          have c12b0 : decide (a1 < (l0.length : Int)) = true := decide_eq_true c12
          clear c12
          replace H := Option.bind_eq_some_iff.mp H
          obtain ⟨t176, A130, H⟩ := H
          try dsimp only at H
          have A13 := a0_ A130
          clear A130
          by_cases c14 : t176 < 0
          ·rw [if_pos c14] at H
           have c14b0 : decide (t176 < 0) = true := decide_eq_true c14
           clear c14
           have H' := a0_ H
           clear H
           try go_wp2
           have n0_ := a0_ (Kd.R_drew HO_0.out)
           have n1_ := a0_ (Kept.drew HK.out)
           have n2_ := a0_ (below_drew1 HB.out)
           clear HO_0
           clear HK
           clear HB
           have HO_0 := n0_
           have HK := n1_
           have HB := n2_
           clear n0_ n1_ n2_
           obtain ⟨Ao16, co16, eo16⟩ := Kd.R_slice HO_0.out
           (first | subst eo16 | (injection eo16 with f1_ f2_ f3_; have f4_ := f1_.symm; have f5_ := f3_.symm; clear f1_ f2_ f3_; subst f4_; subst f5_))
           have p174 : 0 ≤ ((ji8) : Int) := of_decide_eq_true z10_
           have q174 : (ji8) < (l0.length : Int) := of_decide_eq_true z10_
           obtain ⟨ad174, e174, hx174_0, hx174_1, hx174_2⟩ := at_T120 (Kd.R_reads' HO_0.out).2.2 (ji8) p174 q174
           cases e174
           replace p174 := eq_true p174
           replace q174 := eq_true q174
           have p175 : 0 ≤ (a1 : Int) := of_decide_eq_true z10_
           have q175 : a1 < (l0.length : Int) := of_decide_eq_true z10_
           obtain ⟨ad175, e175, hx175_0, hx175_1, hx175_2⟩ := at_T120 (Kd.R_reads' HO_0.out).2.2 a1 p175 q175
           obtain rfl : ad174 = ad175 := (by injection e175)
           replace p175 := eq_true p175
           replace q175 := eq_true q175
           refine st_ 11 (S := fun w' => w'.cell? (ad174.add (((ji8)).toNat * 3)) = some (.int .i64 ((rd_T120 l0 (ji8)).f0)) ∧ w'.cell? ⟨(ad174.add (((ji8)).toNat * 3)).block, (ad174.add (((ji8)).toNat * 3)).off + 1, none⟩ = some (.int .i64 ((rd_T120 l0 (ji8)).f1)) ∧ w'.cell? ⟨(ad174.add (((ji8)).toNat * 3)).block, (ad174.add (((ji8)).toNat * 3)).off + 2, none⟩ = some (.string ((rd_T120 l0 (ji8)).f2)) ∧ w'.cell? (ad174.add ((a1).toNat * 3)) = some (.int .i64 ((rd_T120 l0 a1).f0)) ∧ w'.cell? ⟨(ad174.add ((a1).toNat * 3)).block, (ad174.add ((a1).toNat * 3)).off + 1, none⟩ = some (.int .i64 ((rd_T120 l0 a1).f1)) ∧ w'.cell? ⟨(ad174.add ((a1).toNat * 3)).block, (ad174.add ((a1).toNat * 3)).off + 2, none⟩ = some (.string ((rd_T120 l0 a1).f2))) (ds := []) ⟨hx174_0, hx174_1, hx174_2, hx175_0, hx175_1, hx175_2⟩ (fun hHeld => ?_); refine with_tabW api_Write_116.tab5 api_Write_116.bits5 (fun HT_ HW_ => ?_)
           generalize wr.drew = w15 at HO_0 HK HB hx174_0 hx174_1 hx174_2 hx175_0 hx175_1 hx175_2 hHeld ⊢
           refine pq_ 0 (some 40) rfl rfl ?_
           refine pq_ 1 (some 41) rfl rfl ?_
           refine pq_ 2 (some 42) rfl rfl ?_
           refine pq_ 3 (some 43) rfl rfl ?_
           refine pq_ 5 (some 45) rfl rfl ?_
           refine pq_ 6 (some 46) rfl rfl ?_
           refine pq_ 7 (some 47) rfl rfl ?_
           refine tq_ 4 (some 44) rfl rfl hHeld ?_
           refine tq_ 8 (some 48) rfl rfl hHeld ?_
           refine oq_ 9 (some 49) rfl rfl (fun K hK => ?_)
           refine goesF_ Try.func93 z6_ rfl #[.agg #[.int .i64 ((rd_T120 l0 (ji8)).f0), .int .i64 ((rd_T120 l0 (ji8)).f1), .string ((rd_T120 l0 (ji8)).f2)], .agg #[.int .i64 ((rd_T120 l0 a1).f0), .int .i64 ((rd_T120 l0 a1).f1), .string ((rd_T120 l0 a1).f2)]] (by rfl) rfl rfl z82_ ?_
           with_reducible refine (fold_order.calls k1 ((rd_T120 l0 (ji8)).f0) ((rd_T120 l0 (ji8)).f1) ((rd_T120 l0 (ji8)).f2) ((rd_T120 l0 a1).f0) ((rd_T120 l0 a1).f1) ((rd_T120 l0 a1).f2) t176 _ A13.out).mono ?_
           rintro e w17 ⟨rfl, hb⟩
           have HS0_ := (hb.cell (World.block_lt_of_cell? _ _ (hHeld.1))).trans (hHeld.1)
           have HS1_ := (hb.cell (World.block_lt_of_cell? _ _ (hHeld.2.1))).trans (hHeld.2.1)
           have HS2_ := (hb.cell (World.block_lt_of_cell? _ _ (hHeld.2.2.1))).trans (hHeld.2.2.1)
           have HS3_ := (hb.cell (World.block_lt_of_cell? _ _ (hHeld.2.2.2.1))).trans (hHeld.2.2.2.1)
           have HS4_ := (hb.cell (World.block_lt_of_cell? _ _ (hHeld.2.2.2.2.1))).trans (hHeld.2.2.2.2.1)
           have HS5_ := (hb.cell (World.block_lt_of_cell? _ _ (hHeld.2.2.2.2.2))).trans (hHeld.2.2.2.2.2)
           refine ⟨_, rfl, ?_⟩
           have n0_ := a0_ (Kd.R_below z78_ hb)
           have n1_ := a0_ (Kept.below (S := (fun k_ => P0_ k_)) z77_ hb)
           have n2_ := a0_ (below_step z3_ hb)
           clear HO_0
           clear HK
           clear HB
           have HO_0 := n0_
           have HK := n1_
           have HB := n2_
           clear n0_ n1_ n2_
           (try clear hb)
           (try clear hb2)
           (try clear hk)
           (try clear hi)
           refine hK.out _ _ ⟨HS0_, HS1_, HS2_, HS3_, HS4_, HS5_⟩ (fun hHeld => ?_)
           clear hK K
           refine norm_ (a' := ?_) ?_ ?_
           rotate_left
           ·show Act.put _ (some 49) _ = _
            exact put_
           refine pq_ 10 (some 50) rfl rfl ?_
           refine done_ (done_of HT_.out z6_) ?_
           try go_wp2
           go_roundg k1
           case measure => have := HK1.out; omega
           case rel => exact ⟨(wrap64 ((ji8) + 1)), (x11_1), z83_, z4_, H', ⟨z39_⟩, ⟨z78_⟩, ⟨z77_⟩, ⟨z3_⟩⟩
          ·rw [if_neg c14] at H
           have c14b0 : decide (t176 < 0) = false := decide_eq_false c14
           clear c14
           have H' := a0_ H
           clear H
           try go_wp2
           have n0_ := a0_ (Kd.R_drew HO_0.out)
           have n1_ := a0_ (Kept.drew HK.out)
           have n2_ := a0_ (below_drew1 HB.out)
           clear HO_0
           clear HK
           clear HB
           have HO_0 := n0_
           have HK := n1_
           have HB := n2_
           clear n0_ n1_ n2_
           obtain ⟨Ao19, co19, eo19⟩ := Kd.R_slice HO_0.out
           (first | subst eo19 | (injection eo19 with f1_ f2_ f3_; have f4_ := f1_.symm; have f5_ := f3_.symm; clear f1_ f2_ f3_; subst f4_; subst f5_))
           have p174 : 0 ≤ ((ji8) : Int) := of_decide_eq_true z10_
           have q174 : (ji8) < (l0.length : Int) := of_decide_eq_true z10_
           obtain ⟨ad174, e174, hx174_0, hx174_1, hx174_2⟩ := at_T120 (Kd.R_reads' HO_0.out).2.2 (ji8) p174 q174
           cases e174
           replace p174 := eq_true p174
           replace q174 := eq_true q174
           have p175 : 0 ≤ (a1 : Int) := of_decide_eq_true z10_
           have q175 : a1 < (l0.length : Int) := of_decide_eq_true z10_
           obtain ⟨ad175, e175, hx175_0, hx175_1, hx175_2⟩ := at_T120 (Kd.R_reads' HO_0.out).2.2 a1 p175 q175
           obtain rfl : ad174 = ad175 := (by injection e175)
           replace p175 := eq_true p175
           replace q175 := eq_true q175
           refine st_ 11 (S := fun w' => w'.cell? (ad174.add (((ji8)).toNat * 3)) = some (.int .i64 ((rd_T120 l0 (ji8)).f0)) ∧ w'.cell? ⟨(ad174.add (((ji8)).toNat * 3)).block, (ad174.add (((ji8)).toNat * 3)).off + 1, none⟩ = some (.int .i64 ((rd_T120 l0 (ji8)).f1)) ∧ w'.cell? ⟨(ad174.add (((ji8)).toNat * 3)).block, (ad174.add (((ji8)).toNat * 3)).off + 2, none⟩ = some (.string ((rd_T120 l0 (ji8)).f2)) ∧ w'.cell? (ad174.add ((a1).toNat * 3)) = some (.int .i64 ((rd_T120 l0 a1).f0)) ∧ w'.cell? ⟨(ad174.add ((a1).toNat * 3)).block, (ad174.add ((a1).toNat * 3)).off + 1, none⟩ = some (.int .i64 ((rd_T120 l0 a1).f1)) ∧ w'.cell? ⟨(ad174.add ((a1).toNat * 3)).block, (ad174.add ((a1).toNat * 3)).off + 2, none⟩ = some (.string ((rd_T120 l0 a1).f2))) (ds := []) ⟨hx174_0, hx174_1, hx174_2, hx175_0, hx175_1, hx175_2⟩ (fun hHeld => ?_); refine with_tabW api_Write_116.tab5 api_Write_116.bits5 (fun HT_ HW_ => ?_)
           generalize wr.drew = w18 at HO_0 HK HB hx174_0 hx174_1 hx174_2 hx175_0 hx175_1 hx175_2 hHeld ⊢
           refine pq_ 0 (some 40) rfl rfl ?_
           refine pq_ 1 (some 41) rfl rfl ?_
           refine pq_ 2 (some 42) rfl rfl ?_
           refine pq_ 3 (some 43) rfl rfl ?_
           refine pq_ 5 (some 45) rfl rfl ?_
           refine pq_ 6 (some 46) rfl rfl ?_
           refine pq_ 7 (some 47) rfl rfl ?_
           refine tq_ 4 (some 44) rfl rfl hHeld ?_
           refine tq_ 8 (some 48) rfl rfl hHeld ?_
           refine oq_ 9 (some 49) rfl rfl (fun K hK => ?_)
           refine goesF_ Try.func93 z6_ rfl #[.agg #[.int .i64 ((rd_T120 l0 (ji8)).f0), .int .i64 ((rd_T120 l0 (ji8)).f1), .string ((rd_T120 l0 (ji8)).f2)], .agg #[.int .i64 ((rd_T120 l0 a1).f0), .int .i64 ((rd_T120 l0 a1).f1), .string ((rd_T120 l0 a1).f2)]] (by rfl) rfl rfl z82_ ?_
           with_reducible refine (fold_order.calls k1 ((rd_T120 l0 (ji8)).f0) ((rd_T120 l0 (ji8)).f1) ((rd_T120 l0 (ji8)).f2) ((rd_T120 l0 a1).f0) ((rd_T120 l0 a1).f1) ((rd_T120 l0 a1).f2) t176 _ A13.out).mono ?_
           rintro e w20 ⟨rfl, hb⟩
           have HS0_ := (hb.cell (World.block_lt_of_cell? _ _ (hHeld.1))).trans (hHeld.1)
           have HS1_ := (hb.cell (World.block_lt_of_cell? _ _ (hHeld.2.1))).trans (hHeld.2.1)
           have HS2_ := (hb.cell (World.block_lt_of_cell? _ _ (hHeld.2.2.1))).trans (hHeld.2.2.1)
           have HS3_ := (hb.cell (World.block_lt_of_cell? _ _ (hHeld.2.2.2.1))).trans (hHeld.2.2.2.1)
           have HS4_ := (hb.cell (World.block_lt_of_cell? _ _ (hHeld.2.2.2.2.1))).trans (hHeld.2.2.2.2.1)
           have HS5_ := (hb.cell (World.block_lt_of_cell? _ _ (hHeld.2.2.2.2.2))).trans (hHeld.2.2.2.2.2)
           refine ⟨_, rfl, ?_⟩
           have n0_ := a0_ (Kd.R_below z78_ hb)
           have n1_ := a0_ (Kept.below (S := (fun k_ => P0_ k_)) z77_ hb)
           have n2_ := a0_ (below_step z3_ hb)
           clear HO_0
           clear HK
           clear HB
           have HO_0 := n0_
           have HK := n1_
           have HB := n2_
           clear n0_ n1_ n2_
           (try clear hb)
           (try clear hb2)
           (try clear hk)
           (try clear hi)
           refine hK.out _ _ ⟨HS0_, HS1_, HS2_, HS3_, HS4_, HS5_⟩ (fun hHeld => ?_)
           clear hK K
           refine norm_ (a' := ?_) ?_ ?_
           rotate_left
           ·show Act.put _ (some 49) _ = _
            exact put_
           refine pq_ 10 (some 50) rfl rfl ?_
           refine done_ (done_of HT_.out z6_) ?_
           try go_wp2
           go_roundg k1
           case measure => have := HK1.out; omega
           case rel => exact ⟨(x10_1), (ji8), z4_, z83_, H', ⟨z39_⟩, ⟨z78_⟩, ⟨z77_⟩, ⟨z3_⟩⟩
         ·rw [if_neg c12] at H
          exact absurd H (by simp)
        ·rw [if_neg c11] at H
         exact absurd H (by simp)
       ·rw [if_neg c10] at H
        exact absurd H (by simp)
      ·rw [if_neg c9] at H
       exact absurd H (by simp)
     ·rw [if_neg c7] at H
      have c7b0 : decide (x10_1 < x11_1) = false := decide_eq_false c7
      clear c7
      have H' := a0_ H
      clear H
      go_wp2
      go_loopg [13] k1 (fun kq v13 w' => ∃ (x0_2 : List (S120)) (x13_2 : Int), v13 = .int .i64 x13_2 ∧ Aside0 (api_Write_116.l1 kq x0_2 x10_1 x13_2 = some r) ∧ Aside0 (kq ≤ k1) ∧ Aside0 (Kd.R k120 120 w' w0.heap.size (fun k_ => (P0_ k_ ∨ w.heap.size ≤ k_)) u9000_ x0_2) ∧ Aside0 (Kept w w' (fun k_ => P0_ k_)) ∧ Aside0 (Below w0.heap.size w0 w'))
      case atStart => exact ⟨(l0), (a1), z4_, H', ⟨Nat.le_refl _⟩, ⟨z78_⟩, ⟨z77_⟩, ⟨z3_⟩⟩
      case round =>
       clear H'
       obtain ⟨x0_2, x13_2, rfl, HA, HK2, HO_0, HK, HB⟩ := hrel
       cases gk with
       | zero => exact absurd HA.out (by simp [api_Write_116.l1])
       | succ k2 =>
        have H := HA.out
        clear HA
        simp only [api_Write_116.l1] at H
        by_cases c21 : x13_2 < (wrap64 (x10_1 - 1))
        ·rw [if_pos c21] at H
         have c21b0 : decide (x13_2 < (wrap64 (x10_1 - 1))) = true := decide_eq_true c21
         clear c21
         obtain ⟨ji22, hji22⟩ : ∃ j_ : Int, (wrap64 (x13_2 + 1)) = j_ := ⟨_, rfl⟩
         replace H : (if 0 ≤ (ji22) then (if (ji22) < (x0_2.length : Int) then (if 0 ≤ x13_2 then (if x13_2 < (x0_2.length : Int) then (api_Write_116.l1 k2 ((x0_2.set (x13_2 : Int).toNat (⟨(rd_T120 x0_2 (ji22)).f0, (rd_T120 x0_2 (ji22)).f1, (rd_T120 x0_2 (ji22)).f2⟩ : S120)).set ((ji22) : Int).toNat (⟨(rd_T120 x0_2 x13_2).f0, (rd_T120 x0_2 x13_2).f1, (rd_T120 x0_2 x13_2).f2⟩ : S120)) x10_1 ji22) else (none)) else (none)) else (none)) else (none)) = some r := by first | (rw [hji22] at H; exact H) | (simp only [hji22] at H ⊢; exact H)
         have hji22w : (IntKind.i64.wrap (x13_2 + 1)) = ji22 := (i64_w _).trans hji22
         by_cases c23 : 0 ≤ (ji22)
         ·rw [if_pos c23] at H
          have c23b0 : decide (0 ≤ (ji22)) = true := decide_eq_true c23
          clear c23
          by_cases c24 : (ji22) < (x0_2.length : Int)
          ·rw [if_pos c24] at H
           have c24b0 : decide ((ji22) < (x0_2.length : Int)) = true := decide_eq_true c24
           clear c24
           by_cases c25 : 0 ≤ x13_2
           ·rw [if_pos c25] at H
            have c25b0 : decide (0 ≤ x13_2) = true := decide_eq_true c25
            clear c25
            by_cases c26 : x13_2 < (x0_2.length : Int)
            ·rw [if_pos c26] at H
             have c26b0 : decide (x13_2 < (x0_2.length : Int)) = true := decide_eq_true c26
             clear c26
             obtain ⟨y179, hy179⟩ : ∃ y_ : List (S120), y_ = (x0_2.set (x13_2 : Int).toNat (⟨(rd_T120 x0_2 (ji22)).f0, (rd_T120 x0_2 (ji22)).f1, (rd_T120 x0_2 (ji22)).f2⟩ : S120)) := ⟨_, rfl⟩
             replace H : (api_Write_116.l1 k2 (y179.set ((ji22) : Int).toNat (⟨(rd_T120 x0_2 x13_2).f0, (rd_T120 x0_2 x13_2).f1, (rd_T120 x0_2 x13_2).f2⟩ : S120)) x10_1 ji22) = some r := by first | (rw [hy179]; with_reducible exact H) | (have H2_ := (Option.bind_some _ _).symm.trans H; rw [hy179]; with_reducible exact H2_) | (have H2_ := (Option.bind_some _ _).symm.trans H; with_reducible exact H2_) | with_reducible exact H | (rw [hy179]; exact H) | exact H
             have Ny179 := a0_ hy179
             clear hy179
             obtain ⟨y180, hy180⟩ : ∃ y_ : List (S120), y_ = (y179.set ((ji22) : Int).toNat (⟨(rd_T120 x0_2 x13_2).f0, (rd_T120 x0_2 x13_2).f1, (rd_T120 x0_2 x13_2).f2⟩ : S120)) := ⟨_, rfl⟩
             replace H : (api_Write_116.l1 k2 y180 x10_1 ji22) = some r := by first | (rw [hy180]; with_reducible exact H) | (have H2_ := (Option.bind_some _ _).symm.trans H; rw [hy180]; with_reducible exact H2_) | (have H2_ := (Option.bind_some _ _).symm.trans H; with_reducible exact H2_) | with_reducible exact H | (rw [hy180]; exact H) | exact H
             have Ny180 := a0_ hy180
             clear hy180
             have H' := a0_ H
             clear H
             try go_wp2
             have n0_ := a0_ (Kd.R_drew HO_0.out)
             have n1_ := a0_ (Kept.drew HK.out)
             have n2_ := a0_ (below_drew1 HB.out)
             clear HO_0
             clear HK
             clear HB
             have HO_0 := n0_
             have HK := n1_
             have HB := n2_
             clear n0_ n1_ n2_
             obtain ⟨Ao30, co30, eo30⟩ := Kd.R_slice HO_0.out
             (first | subst eo30 | (injection eo30 with f1_ f2_ f3_; have f4_ := f1_.symm; have f5_ := f3_.symm; clear f1_ f2_ f3_; subst f4_; subst f5_))
             have p177 : 0 ≤ ((ji22) : Int) := of_decide_eq_true z10_
             have q177 : (ji22) < (x0_2.length : Int) := of_decide_eq_true z10_
             obtain ⟨ad177, e177, hx177_0, hx177_1, hx177_2⟩ := at_T120 (Kd.R_reads' HO_0.out).2.2 (ji22) p177 q177
             cases e177
             replace p177 := eq_true p177
             replace q177 := eq_true q177
             have p178 : 0 ≤ (x13_2 : Int) := of_decide_eq_true z10_
             have q178 : x13_2 < (x0_2.length : Int) := of_decide_eq_true z10_
             obtain ⟨ad178, e178, hx178_0, hx178_1, hx178_2⟩ := at_T120 (Kd.R_reads' HO_0.out).2.2 x13_2 p178 q178
             obtain rfl : ad177 = ad178 := (by injection e178)
             replace p178 := eq_true p178
             replace q178 := eq_true q178
             have p27 : 0 ≤ (x13_2 : Int) := of_decide_eq_true z10_
             have q27 : (x13_2 : Int) < ((x0_2.length : Int) : Int) := of_decide_eq_true z10_
             obtain ⟨go27, co27, eo27, gb27, gl27, cl27, HG27⟩ := Kd.R_form HO_0.out z7_
             (first | cases eo27 | (injection eo27 with ea_ en_ ec_; (first | subst ea_ | (injection ea_ with ea_; subst ea_)); subst ec_; clear en_))
             have GB27 := a0_ gb27
             have GG27 := a0_ HG27
             clear gb27 gl27 HG27
             have HMgo27 := a0_ (show (P0_ go27 ∨ w.heap.size ≤ go27) from (HO_0.out.1 _ rfl))
             (first | simp only [add_plain] at hx177_0 | skip)
             (first | simp only [add_plain] at hx177_1 | skip)
             (first | simp only [add_plain] at hx177_2 | skip)
             (first | simp only [add_plain] at hx178_0 | skip)
             (first | simp only [add_plain] at hx178_1 | skip)
             (first | simp only [add_plain] at hx178_2 | skip)
             obtain ⟨ce27, hcl27, hM27, hcc27, hfr27⟩ := Kd.R_elem HO_0.out z120 (x13_2 : Int) p27 q27
             obtain rfl := k120_openM hM27
             have hx27_0 : World.cell? _ ⟨go27, (x13_2 : Int).toNat * 3, none⟩ = some (.int .i64 ((rd_T120 x0_2 x13_2).f0)) := hcc27 0 _ rfl
             have hx27_1 : World.cell? _ ⟨go27, (x13_2 : Int).toNat * 3 + 1, none⟩ = some (.int .i64 ((rd_T120 x0_2 x13_2).f1)) := hcc27 1 _ rfl
             have hx27_2 : World.cell? _ ⟨go27, (x13_2 : Int).toNat * 3 + 2, none⟩ = some (.string ((rd_T120 x0_2 x13_2).f2)) := hcc27 2 _ rfl
             have hf27_0 : World.frozen? _ ⟨go27, (x13_2 : Int).toNat * 3, none⟩ = false := hfr27 0
             have hf27_1 : World.frozen? _ ⟨go27, (x13_2 : Int).toNat * 3 + 1, none⟩ = false := hfr27 1
             have hf27_2 : World.frozen? _ ⟨go27, (x13_2 : Int).toNat * 3 + 2, none⟩ = false := hfr27 2
             clear hcl27 hcc27 hfr27 hM27
             replace p27 := eq_true p27
             replace q27 := eq_true q27
             obtain ⟨ce31, hcl31, hM31, hcc31, hfr31⟩ := Kd.R_elem HO_0.out z120 (x13_2 : Int) (of_decide_eq_true z10_) (by have h_ : (x13_2 : Int) < ((x0_2.length : Int) : Int) := of_decide_eq_true z10_; first | exact h_ | (have e_ := (Kd.R_reads' HO_0.out).1; omega) | simpa using h_)
             obtain rfl := k120_openM hM31
             have HP31 := (Kd.R_seg HO_0.out (x13_2 : Int) (of_decide_eq_true z10_) (by have h_ : (x13_2 : Int) < ((x0_2.length : Int) : Int) := of_decide_eq_true z10_; first | exact h_ | (have e_ := (Kd.R_reads' HO_0.out).1; omega) | simpa using h_) (seg := [.int .i64 ((rd_T120 x0_2 (ji22)).f0), .int .i64 ((rd_T120 x0_2 (ji22)).f1), .string ((rd_T120 x0_2 (ji22)).f2)]) (j := 0) hcl31 hcc31 (show 3 ≤ 3 from z8_) (x' := (⟨(rd_T120 x0_2 (ji22)).f0, (rd_T120 x0_2 (ji22)).f1, (rd_T120 x0_2 (ji22)).f2⟩ : S120)) (k120_mkM _ _ _ (⟨(rd_T120 x0_2 (ji22)).f0, (rd_T120 x0_2 (ji22)).f1, (rd_T120 x0_2 (ji22)).f2⟩ : S120) ) (fun _ hk => hk)).1
             rw [← Ny179.out] at HP31
             have HQ31 := a0_ HP31
             clear hcl31 hcc31 hfr31 hM31 HP31
             have p28 : 0 ≤ ((ji22) : Int) := of_decide_eq_true z10_
             have q28 : ((ji22) : Int) < ((x0_2.length : Int) : Int) := of_decide_eq_true z10_
             obtain ⟨ce28, hcl28, hM28, hcc28, hfr28⟩ := Kd.R_elem HQ31.out z120 ((ji22) : Int) p28 q28
             obtain rfl := k120_openM hM28
             have hx28_0 : World.cell? _ ⟨go27, ((ji22) : Int).toNat * 3, none⟩ = some (.int .i64 ((rd_T120 y179 (ji22)).f0)) := hcc28 0 _ rfl
             have hx28_1 : World.cell? _ ⟨go27, ((ji22) : Int).toNat * 3 + 1, none⟩ = some (.int .i64 ((rd_T120 y179 (ji22)).f1)) := hcc28 1 _ rfl
             have hx28_2 : World.cell? _ ⟨go27, ((ji22) : Int).toNat * 3 + 2, none⟩ = some (.string ((rd_T120 y179 (ji22)).f2)) := hcc28 2 _ rfl
             have hf28_0 : World.frozen? _ ⟨go27, ((ji22) : Int).toNat * 3, none⟩ = false := hfr28 0
             have hf28_1 : World.frozen? _ ⟨go27, ((ji22) : Int).toNat * 3 + 1, none⟩ = false := hfr28 1
             have hf28_2 : World.frozen? _ ⟨go27, ((ji22) : Int).toNat * 3 + 2, none⟩ = false := hfr28 2
             clear hcl28 hcc28 hfr28 hM28
             replace p28 := eq_true p28
             replace q28 := eq_true q28
             obtain ⟨ce32, hcl32, hM32, hcc32, hfr32⟩ := Kd.R_elem HQ31.out z120 ((ji22) : Int) (of_decide_eq_true z10_) (by have h_ : ((ji22) : Int) < ((x0_2.length : Int) : Int) := of_decide_eq_true z10_; first | exact h_ | (have e_ := (Kd.R_reads' HO_0.out).1; omega) | simpa using h_)
             obtain rfl := k120_openM hM32
             have HP32 := (Kd.R_seg HQ31.out ((ji22) : Int) (of_decide_eq_true z10_) (by have h_ : ((ji22) : Int) < ((x0_2.length : Int) : Int) := of_decide_eq_true z10_; first | exact h_ | (have e_ := (Kd.R_reads' HO_0.out).1; omega) | simpa using h_) (seg := [.int .i64 ((rd_T120 x0_2 x13_2).f0), .int .i64 ((rd_T120 x0_2 x13_2).f1), .string ((rd_T120 x0_2 x13_2).f2)]) (j := 0) hcl32 hcc32 (show 3 ≤ 3 from z8_) (x' := (⟨(rd_T120 x0_2 x13_2).f0, (rd_T120 x0_2 x13_2).f1, (rd_T120 x0_2 x13_2).f2⟩ : S120)) (k120_mkM _ _ _ (⟨(rd_T120 x0_2 x13_2).f0, (rd_T120 x0_2 x13_2).f1, (rd_T120 x0_2 x13_2).f2⟩ : S120) ) (fun _ hk => hk)).1
             rw [← Ny180.out] at HP32
             have HQ32 := a0_ HP32
             clear hcl32 hcc32 hfr32 hM32 HP32
             refine st_ 18 (S := fun w' => w'.cell? ⟨go27, (((ji22)).toNat * 3), none⟩ = some (.int .i64 ((rd_T120 x0_2 (ji22)).f0)) ∧ w'.cell? ⟨go27, (((ji22)).toNat * 3) + 1, none⟩ = some (.int .i64 ((rd_T120 x0_2 (ji22)).f1)) ∧ w'.cell? ⟨go27, (((ji22)).toNat * 3) + 2, none⟩ = some (.string ((rd_T120 x0_2 (ji22)).f2)) ∧ w'.cell? ⟨go27, ((x13_2).toNat * 3), none⟩ = some (.int .i64 ((rd_T120 x0_2 x13_2).f0)) ∧ w'.cell? ⟨go27, ((x13_2).toNat * 3) + 1, none⟩ = some (.int .i64 ((rd_T120 x0_2 x13_2).f1)) ∧ w'.cell? ⟨go27, ((x13_2).toNat * 3) + 2, none⟩ = some (.string ((rd_T120 x0_2 x13_2).f2))) (ds := [15, 17]) ⟨hx177_0, hx177_1, hx177_2, hx178_0, hx178_1, hx178_2⟩ (fun hHeld => ?_); refine with_tabW api_Write_116.tab11 api_Write_116.bits11 (fun HT_ HW_ => ?_)
             generalize wr.drew = w29 at HO_0 HK HB GG27 HQ31 HQ32 hf27_0 hf27_1 hf27_2 hf28_0 hf28_1 hf28_2 hx177_0 hx177_1 hx177_2 hx178_0 hx178_1 hx178_2 hx27_0 hx27_1 hx27_2 hx28_0 hx28_1 hx28_2 hHeld ⊢
             refine pq_ 0 (some 61) rfl rfl ?_
             refine pq_ 1 (some 62) rfl rfl ?_
             refine pq_ 2 (some 63) rfl rfl ?_
             refine pq_ 3 (some 64) rfl rfl ?_
             refine pq_ 4 (some 65) rfl rfl ?_
             refine pq_ 5 (some 66) rfl rfl ?_
             refine pq_ 6 (some 67) rfl rfl ?_
             refine pq_ 7 (some 68) rfl rfl ?_
             refine pq_ 8 (some 69) rfl rfl ?_
             refine pq_ 10 (some 71) rfl rfl ?_
             refine pq_ 11 (some 72) rfl rfl ?_
             refine pq_ 12 (some 73) rfl rfl ?_
             refine tq_ 9 (some 70) rfl rfl hHeld ?_
             refine tq_ 13 (some 74) rfl rfl hHeld ?_
             refine pq_ 14 (some 75) rfl rfl ?_
             refine lq_ 15 (none) rfl rfl (fun K hK => ?_)
             refine skip_ (w1 := ?_) (by rfl) rfl ?_ ?_
             rotate_left
             ·go_simp
              rfl
             refine hK.out _ _ ?_
             clear hK K
             have hkK_ : Aside0 (Kept _ (World.setCells w29 go27 (((x13_2 : Int)).toNat * k120.sz + 0) [.int .i64 ((rd_T120 x0_2 (ji22)).f0), .int .i64 ((rd_T120 x0_2 (ji22)).f1), .string ((rd_T120 x0_2 (ji22)).f2)]) _) := ⟨(Kept.setCell (Kept.setCell (Kept.setCell HK.out HMgo27.out _) HMgo27.out _) HMgo27.out _)⟩
             have hkB_ : Aside0 (Below _ _ (World.setCells w29 go27 (((x13_2 : Int)).toNat * k120.sz + 0) [.int .i64 ((rd_T120 x0_2 (ji22)).f0), .int .i64 ((rd_T120 x0_2 (ji22)).f1), .string ((rd_T120 x0_2 (ji22)).f2)])) := ⟨(below_set (below_set (below_set HB.out GB27.out) GB27.out) GB27.out)⟩
             show wpAnyLast _ _ _ _ _ _ _ _ _ (World.setCells w29 go27 (((x13_2 : Int)).toNat * k120.sz + 0) [.int .i64 ((rd_T120 x0_2 (ji22)).f0), .int .i64 ((rd_T120 x0_2 (ji22)).f1), .string ((rd_T120 x0_2 (ji22)).f2)])
             generalize (World.setCells w29 go27 (((x13_2 : Int)).toNat * k120.sz + 0) [.int .i64 ((rd_T120 x0_2 (ji22)).f0), .int .i64 ((rd_T120 x0_2 (ji22)).f1), .string ((rd_T120 x0_2 (ji22)).f2)]) = wS_ at hkK_ hkB_ HQ31 HQ32 hx28_0 hx28_1 hx28_2 hf28_0 hf28_1 hf28_2 ⊢
             clear HK HB
             have HK := hkK_
             have HB := hkB_
             clear hkK_ hkB_ hHeld
             refine pq_ 16 (some 76) rfl rfl ?_
             refine lq_ 17 (none) rfl rfl (fun K hK => ?_)
             refine skip_ (w1 := ?_) (by rfl) rfl ?_ ?_
             rotate_left
             ·go_simp
              rfl
             refine hK.out _ _ ?_
             clear hK K
             refine done_ (done_of HT_.out z6_) ?_
             try go_wp2
             go_roundg k2
             case measure => have := HK1.out; have := HK2.out; omega
             case rel => exact ⟨(y180), (ji22), (by first | rfl | (simp; done) | (simp only [← hji22] <;> (first | rfl | simp)) | (simp [*]; done)), H', ⟨z80_⟩, ⟨by (with_reducible repeat (first | apply Kd.R_alloc | apply Kd.R_drewN | apply Kd.R_drew)); exact HQ32.out⟩, ⟨by repeat (first | (with_reducible first | exact HK.out | apply Kept.alloc | apply Kept.drewN | apply Kept.drew | refine Kept.setCell ?_ HMgo27.out _ | refine Kept.setCell ?_ HMgo27.out _ | refine Kept.setCell ?_ HMgo27.out _ | refine Kept.setCell ?_ HMgo27.out _ | refine Kept.setCell ?_ HMgo27.out _ | refine Kept.setCell ?_ HMgo27.out _) | exact HK.out)⟩, ⟨by repeat (first | (with_reducible first | exact HB.out | apply below_alloc | apply pw_below_drewN | apply below_drew1 | refine below_set ?_ GB27.out | refine below_set ?_ GB27.out | refine below_set ?_ GB27.out | refine below_set ?_ GB27.out | refine below_set ?_ GB27.out | refine below_set ?_ GB27.out) | exact HB.out)⟩⟩
            ·rw [if_neg c26] at H
             exact absurd H (by simp)
           ·rw [if_neg c25] at H
            exact absurd H (by simp)
          ·rw [if_neg c24] at H
           exact absurd H (by simp)
         ·rw [if_neg c23] at H
          exact absurd H (by simp)
        ·rw [if_neg c21] at H
         have c21b0 : decide (x13_2 < (wrap64 (x10_1 - 1))) = false := decide_eq_false c21
         clear c21
         obtain rfl := Option.some.inj H
         go_wp2
         first | go_end0 | ((try simp only [Exit.inBlock, Exit.then]); refine bodyPost_ret (results_none rfl _ _ _) rfl ?_)
         exact qrx90_
 ·rw [if_neg c6] at H
  have c6b0 : ((wrap64 (a2 - a1)) == 1) = false := beq_eq_false_iff_ne.mpr c6
  have c6b1 : ((wrap64 (a2 - a1)) != 1) = true := bne_iff_ne.mpr c6
  by_cases c33 : (wrap64 (a3 - a2)) = 1
  ·as_aux_lemma =>
    rw [if_pos c33] at H
    have c33b0 : ((wrap64 (a3 - a2)) == 1) = true := beq_iff_eq.mpr c33
    have c33b1 : ((wrap64 (a3 - a2)) != 1) = false := bne_eq_false_iff_eq.mpr c33
    clear c33
    have H' := a0_ H
    clear H
    go_enter Try.func116, Try.ntmps116
    go_wp2
    go_loopg [14, 15] k (fun kq v14 v15 w' => ∃ (x14_1 : Int) (x15_1 : Int), v14 = .int .i64 x14_1 ∧ v15 = .int .i64 x15_1 ∧ Aside0 (api_Write_116.l2 kq l0 a2 x14_1 x15_1 = some r) ∧ Aside0 (kq ≤ k) ∧ Aside0 (Kd.R k120 120 w' w0.heap.size (fun k_ => (P0_ k_ ∨ w.heap.size ≤ k_)) u9000_ l0) ∧ Aside0 (Kept w w' (fun k_ => P0_ k_)) ∧ Aside0 (Below w0.heap.size w0 w'))
    case atStart => exact ⟨(a1), (a2), z4_, z4_, H', ⟨Nat.le_refl _⟩, ⟨z76_⟩, ⟨z77_⟩, ⟨z3_⟩⟩
    case round =>
     clear H'
     obtain ⟨x14_1, x15_1, rfl, rfl, HA, HK1, HO_0, HK, HB⟩ := hrel
     cases gk with
     | zero => exact absurd HA.out (by simp [api_Write_116.l2])
     | succ k1 =>
      have H := HA.out
      clear HA
      simp only [api_Write_116.l2] at H
      by_cases c34 : x14_1 < x15_1
      ·rw [if_pos c34] at H
       have c34b0 : decide (x14_1 < x15_1) = true := decide_eq_true c34
       clear c34
       by_cases c35 : 0 ≤ a2
       ·rw [if_pos c35] at H
        have c35b0 : decide (0 ≤ a2) = true := decide_eq_true c35
        clear c35
        by_cases c36 : a2 < (l0.length : Int)
        ·rw [if_pos c36] at H
         have c36b0 : decide (a2 < (l0.length : Int)) = true := decide_eq_true c36
         clear c36
         obtain ⟨ji37, hji37⟩ : ∃ j_ : Int, (wrap64 ((IntKind.u64.wrap (wrap64 (x14_1 + x15_1))) / 2)) = j_ := ⟨_, rfl⟩
         replace H : (if 0 ≤ (ji37) then (if (ji37) < (l0.length : Int) then ((fold_order.f k1 ((rd_T120 l0 a2).f0) ((rd_T120 l0 a2).f1) ((rd_T120 l0 a2).f2) ((rd_T120 l0 (ji37)).f0) ((rd_T120 l0 (ji37)).f1) ((rd_T120 l0 (ji37)).f2)).bind fun t183 => (if t183 < 0 then (api_Write_116.l2 k1 l0 a2 x14_1 ji37) else (api_Write_116.l2 k1 l0 a2 (wrap64 ((ji37) + 1)) x15_1))) else (none)) else (none)) = some r := by first | (rw [hji37] at H; exact H) | (simp only [hji37] at H ⊢; exact H)
         have hji37w : (IntKind.i64.wrap ((IntKind.u64.wrap (wrap64 (x14_1 + x15_1))) / 2)) = ji37 := (i64_w _).trans hji37
         by_cases c38 : 0 ≤ (ji37)
         ·rw [if_pos c38] at H
          have c38b0 : decide (0 ≤ (ji37)) = true := decide_eq_true c38
          clear c38
          by_cases c39 : (ji37) < (l0.length : Int)
          ·rw [if_pos c39] at H
           have c39b0 : decide ((ji37) < (l0.length : Int)) = true := decide_eq_true c39
           clear c39
           replace H := Option.bind_eq_some_iff.mp H
           obtain ⟨t183, A400, H⟩ := H
           try dsimp only at H
           have A40 := a0_ A400
           clear A400
           by_cases c41 : t183 < 0
           ·rw [if_pos c41] at H
            have c41b0 : decide (t183 < 0) = true := decide_eq_true c41
            clear c41
            have H' := a0_ H
            clear H
            try go_wp2
            have n0_ := a0_ (Kd.R_drew HO_0.out)
            have n1_ := a0_ (Kept.drew HK.out)
            have n2_ := a0_ (below_drew1 HB.out)
            clear HO_0
            clear HK
            clear HB
            have HO_0 := n0_
            have HK := n1_
            have HB := n2_
            clear n0_ n1_ n2_
            obtain ⟨Ao43, co43, eo43⟩ := Kd.R_slice HO_0.out
            (first | subst eo43 | (injection eo43 with f1_ f2_ f3_; have f4_ := f1_.symm; have f5_ := f3_.symm; clear f1_ f2_ f3_; subst f4_; subst f5_))
            have p181 : 0 ≤ (a2 : Int) := of_decide_eq_true z10_
            have q181 : a2 < (l0.length : Int) := of_decide_eq_true z10_
            obtain ⟨ad181, e181, hx181_0, hx181_1, hx181_2⟩ := at_T120 (Kd.R_reads' HO_0.out).2.2 a2 p181 q181
            cases e181
            replace p181 := eq_true p181
            replace q181 := eq_true q181
            have p182 : 0 ≤ ((ji37) : Int) := of_decide_eq_true z10_
            have q182 : (ji37) < (l0.length : Int) := of_decide_eq_true z10_
            obtain ⟨ad182, e182, hx182_0, hx182_1, hx182_2⟩ := at_T120 (Kd.R_reads' HO_0.out).2.2 (ji37) p182 q182
            obtain rfl : ad181 = ad182 := (by injection e182)
            replace p182 := eq_true p182
            replace q182 := eq_true q182
            refine st_ 12 (S := fun w' => w'.cell? (ad181.add ((a2).toNat * 3)) = some (.int .i64 ((rd_T120 l0 a2).f0)) ∧ w'.cell? ⟨(ad181.add ((a2).toNat * 3)).block, (ad181.add ((a2).toNat * 3)).off + 1, none⟩ = some (.int .i64 ((rd_T120 l0 a2).f1)) ∧ w'.cell? ⟨(ad181.add ((a2).toNat * 3)).block, (ad181.add ((a2).toNat * 3)).off + 2, none⟩ = some (.string ((rd_T120 l0 a2).f2)) ∧ w'.cell? (ad181.add (((ji37)).toNat * 3)) = some (.int .i64 ((rd_T120 l0 (ji37)).f0)) ∧ w'.cell? ⟨(ad181.add (((ji37)).toNat * 3)).block, (ad181.add (((ji37)).toNat * 3)).off + 1, none⟩ = some (.int .i64 ((rd_T120 l0 (ji37)).f1)) ∧ w'.cell? ⟨(ad181.add (((ji37)).toNat * 3)).block, (ad181.add (((ji37)).toNat * 3)).off + 2, none⟩ = some (.string ((rd_T120 l0 (ji37)).f2))) (ds := []) ⟨hx181_0, hx181_1, hx181_2, hx182_0, hx182_1, hx182_2⟩ (fun hHeld => ?_); refine with_tabW api_Write_116.tab17 api_Write_116.bits17 (fun HT_ HW_ => ?_)
            generalize wr.drew = w42 at HO_0 HK HB hx181_0 hx181_1 hx181_2 hx182_0 hx182_1 hx182_2 hHeld ⊢
            refine pq_ 0 (some 92) rfl rfl ?_
            refine pq_ 1 (some 93) rfl rfl ?_
            refine pq_ 2 (some 94) rfl rfl ?_
            refine pq_ 3 (some 95) rfl rfl ?_
            refine pq_ 5 (some 97) rfl rfl ?_
            refine pq_ 6 (some 98) rfl rfl ?_
            refine pq_ 7 (some 99) rfl rfl ?_
            refine tq_ 4 (some 96) rfl rfl hHeld ?_
            refine tq_ 8 (some 100) rfl rfl hHeld ?_
            refine oq_ 9 (some 101) rfl rfl (fun K hK => ?_)
            refine goesF_ Try.func93 z6_ rfl #[.agg #[.int .i64 ((rd_T120 l0 a2).f0), .int .i64 ((rd_T120 l0 a2).f1), .string ((rd_T120 l0 a2).f2)], .agg #[.int .i64 ((rd_T120 l0 (ji37)).f0), .int .i64 ((rd_T120 l0 (ji37)).f1), .string ((rd_T120 l0 (ji37)).f2)]] (by rfl) rfl rfl z84_ ?_
            with_reducible refine (fold_order.calls k1 ((rd_T120 l0 a2).f0) ((rd_T120 l0 a2).f1) ((rd_T120 l0 a2).f2) ((rd_T120 l0 (ji37)).f0) ((rd_T120 l0 (ji37)).f1) ((rd_T120 l0 (ji37)).f2) t183 _ A40.out).mono ?_
            rintro e w44 ⟨rfl, hb⟩
            have HS0_ := (hb.cell (World.block_lt_of_cell? _ _ (hHeld.1))).trans (hHeld.1)
            have HS1_ := (hb.cell (World.block_lt_of_cell? _ _ (hHeld.2.1))).trans (hHeld.2.1)
            have HS2_ := (hb.cell (World.block_lt_of_cell? _ _ (hHeld.2.2.1))).trans (hHeld.2.2.1)
            have HS3_ := (hb.cell (World.block_lt_of_cell? _ _ (hHeld.2.2.2.1))).trans (hHeld.2.2.2.1)
            have HS4_ := (hb.cell (World.block_lt_of_cell? _ _ (hHeld.2.2.2.2.1))).trans (hHeld.2.2.2.2.1)
            have HS5_ := (hb.cell (World.block_lt_of_cell? _ _ (hHeld.2.2.2.2.2))).trans (hHeld.2.2.2.2.2)
            refine ⟨_, rfl, ?_⟩
            have n0_ := a0_ (Kd.R_below z78_ hb)
            have n1_ := a0_ (Kept.below (S := (fun k_ => P0_ k_)) z77_ hb)
            have n2_ := a0_ (below_step z3_ hb)
            clear HO_0
            clear HK
            clear HB
            have HO_0 := n0_
            have HK := n1_
            have HB := n2_
            clear n0_ n1_ n2_
            (try clear hb)
            (try clear hb2)
            (try clear hk)
            (try clear hi)
            refine hK.out _ _ ⟨HS0_, HS1_, HS2_, HS3_, HS4_, HS5_⟩ (fun hHeld => ?_)
            clear hK K
            refine norm_ (a' := ?_) ?_ ?_
            rotate_left
            ·show Act.put _ (some 101) _ = _
             exact put_
            refine pq_ 10 (some 102) rfl rfl ?_
            refine pq_ 11 (some 103) rfl rfl ?_
            refine done_ (done_of HT_.out z6_) ?_
            try go_wp2
            go_roundg k1
            case measure => have := HK1.out; omega
            case rel => exact ⟨(x14_1), (ji37), z4_, z85_, H', ⟨z39_⟩, ⟨z78_⟩, ⟨z77_⟩, ⟨z3_⟩⟩
           ·rw [if_neg c41] at H
            have c41b0 : decide (t183 < 0) = false := decide_eq_false c41
            clear c41
            have H' := a0_ H
            clear H
            try go_wp2
            have n0_ := a0_ (Kd.R_drew HO_0.out)
            have n1_ := a0_ (Kept.drew HK.out)
            have n2_ := a0_ (below_drew1 HB.out)
            clear HO_0
            clear HK
            clear HB
            have HO_0 := n0_
            have HK := n1_
            have HB := n2_
            clear n0_ n1_ n2_
            obtain ⟨Ao46, co46, eo46⟩ := Kd.R_slice HO_0.out
            (first | subst eo46 | (injection eo46 with f1_ f2_ f3_; have f4_ := f1_.symm; have f5_ := f3_.symm; clear f1_ f2_ f3_; subst f4_; subst f5_))
            have p181 : 0 ≤ (a2 : Int) := of_decide_eq_true z10_
            have q181 : a2 < (l0.length : Int) := of_decide_eq_true z10_
            obtain ⟨ad181, e181, hx181_0, hx181_1, hx181_2⟩ := at_T120 (Kd.R_reads' HO_0.out).2.2 a2 p181 q181
            cases e181
            replace p181 := eq_true p181
            replace q181 := eq_true q181
            have p182 : 0 ≤ ((ji37) : Int) := of_decide_eq_true z10_
            have q182 : (ji37) < (l0.length : Int) := of_decide_eq_true z10_
            obtain ⟨ad182, e182, hx182_0, hx182_1, hx182_2⟩ := at_T120 (Kd.R_reads' HO_0.out).2.2 (ji37) p182 q182
            obtain rfl : ad181 = ad182 := (by injection e182)
            replace p182 := eq_true p182
            replace q182 := eq_true q182
            refine st_ 12 (S := fun w' => w'.cell? (ad181.add ((a2).toNat * 3)) = some (.int .i64 ((rd_T120 l0 a2).f0)) ∧ w'.cell? ⟨(ad181.add ((a2).toNat * 3)).block, (ad181.add ((a2).toNat * 3)).off + 1, none⟩ = some (.int .i64 ((rd_T120 l0 a2).f1)) ∧ w'.cell? ⟨(ad181.add ((a2).toNat * 3)).block, (ad181.add ((a2).toNat * 3)).off + 2, none⟩ = some (.string ((rd_T120 l0 a2).f2)) ∧ w'.cell? (ad181.add (((ji37)).toNat * 3)) = some (.int .i64 ((rd_T120 l0 (ji37)).f0)) ∧ w'.cell? ⟨(ad181.add (((ji37)).toNat * 3)).block, (ad181.add (((ji37)).toNat * 3)).off + 1, none⟩ = some (.int .i64 ((rd_T120 l0 (ji37)).f1)) ∧ w'.cell? ⟨(ad181.add (((ji37)).toNat * 3)).block, (ad181.add (((ji37)).toNat * 3)).off + 2, none⟩ = some (.string ((rd_T120 l0 (ji37)).f2))) (ds := []) ⟨hx181_0, hx181_1, hx181_2, hx182_0, hx182_1, hx182_2⟩ (fun hHeld => ?_); refine with_tabW api_Write_116.tab17 api_Write_116.bits17 (fun HT_ HW_ => ?_)
            generalize wr.drew = w45 at HO_0 HK HB hx181_0 hx181_1 hx181_2 hx182_0 hx182_1 hx182_2 hHeld ⊢
            refine pq_ 0 (some 92) rfl rfl ?_
            refine pq_ 1 (some 93) rfl rfl ?_
            refine pq_ 2 (some 94) rfl rfl ?_
            refine pq_ 3 (some 95) rfl rfl ?_
            refine pq_ 5 (some 97) rfl rfl ?_
            refine pq_ 6 (some 98) rfl rfl ?_
            refine pq_ 7 (some 99) rfl rfl ?_
            refine tq_ 4 (some 96) rfl rfl hHeld ?_
            refine tq_ 8 (some 100) rfl rfl hHeld ?_
            refine oq_ 9 (some 101) rfl rfl (fun K hK => ?_)
            refine goesF_ Try.func93 z6_ rfl #[.agg #[.int .i64 ((rd_T120 l0 a2).f0), .int .i64 ((rd_T120 l0 a2).f1), .string ((rd_T120 l0 a2).f2)], .agg #[.int .i64 ((rd_T120 l0 (ji37)).f0), .int .i64 ((rd_T120 l0 (ji37)).f1), .string ((rd_T120 l0 (ji37)).f2)]] (by rfl) rfl rfl z84_ ?_
            with_reducible refine (fold_order.calls k1 ((rd_T120 l0 a2).f0) ((rd_T120 l0 a2).f1) ((rd_T120 l0 a2).f2) ((rd_T120 l0 (ji37)).f0) ((rd_T120 l0 (ji37)).f1) ((rd_T120 l0 (ji37)).f2) t183 _ A40.out).mono ?_
            rintro e w47 ⟨rfl, hb⟩
            have HS0_ := (hb.cell (World.block_lt_of_cell? _ _ (hHeld.1))).trans (hHeld.1)
            have HS1_ := (hb.cell (World.block_lt_of_cell? _ _ (hHeld.2.1))).trans (hHeld.2.1)
            have HS2_ := (hb.cell (World.block_lt_of_cell? _ _ (hHeld.2.2.1))).trans (hHeld.2.2.1)
            have HS3_ := (hb.cell (World.block_lt_of_cell? _ _ (hHeld.2.2.2.1))).trans (hHeld.2.2.2.1)
            have HS4_ := (hb.cell (World.block_lt_of_cell? _ _ (hHeld.2.2.2.2.1))).trans (hHeld.2.2.2.2.1)
            have HS5_ := (hb.cell (World.block_lt_of_cell? _ _ (hHeld.2.2.2.2.2))).trans (hHeld.2.2.2.2.2)
            refine ⟨_, rfl, ?_⟩
            have n0_ := a0_ (Kd.R_below z78_ hb)
            have n1_ := a0_ (Kept.below (S := (fun k_ => P0_ k_)) z77_ hb)
            have n2_ := a0_ (below_step z3_ hb)
            clear HO_0
            clear HK
            clear HB
            have HO_0 := n0_
            have HK := n1_
            have HB := n2_
            clear n0_ n1_ n2_
            (try clear hb)
            (try clear hb2)
            (try clear hk)
            (try clear hi)
            refine hK.out _ _ ⟨HS0_, HS1_, HS2_, HS3_, HS4_, HS5_⟩ (fun hHeld => ?_)
            clear hK K
            refine norm_ (a' := ?_) ?_ ?_
            rotate_left
            ·show Act.put _ (some 101) _ = _
             exact put_
            refine pq_ 10 (some 102) rfl rfl ?_
            refine pq_ 11 (some 103) rfl rfl ?_
            refine done_ (done_of HT_.out z6_) ?_
            try go_wp2
            go_roundg k1
            case measure => have := HK1.out; omega
            case rel => exact ⟨(wrap64 ((ji37) + 1)), (x15_1), z85_, z4_, H', ⟨z39_⟩, ⟨z78_⟩, ⟨z77_⟩, ⟨z3_⟩⟩
          ·rw [if_neg c39] at H
           exact absurd H (by simp)
         ·rw [if_neg c38] at H
          exact absurd H (by simp)
        ·rw [if_neg c36] at H
         exact absurd H (by simp)
       ·rw [if_neg c35] at H
        exact absurd H (by simp)
      ·rw [if_neg c34] at H
       have c34b0 : decide (x14_1 < x15_1) = false := decide_eq_false c34
       clear c34
       have H' := a0_ H
       clear H
       go_wp2
       go_loopg [17] k1 (fun kq v17 w' => ∃ (x0_2 : List (S120)) (x17_2 : Int), v17 = .int .i64 x17_2 ∧ Aside0 (api_Write_116.l3 kq x0_2 x14_1 x17_2 = some r) ∧ Aside0 (kq ≤ k1) ∧ Aside0 (Kd.R k120 120 w' w0.heap.size (fun k_ => (P0_ k_ ∨ w.heap.size ≤ k_)) u9000_ x0_2) ∧ Aside0 (Kept w w' (fun k_ => P0_ k_)) ∧ Aside0 (Below w0.heap.size w0 w'))
       case atStart => exact ⟨(l0), (a2), z4_, H', ⟨Nat.le_refl _⟩, ⟨z78_⟩, ⟨z77_⟩, ⟨z3_⟩⟩
       case round =>
        clear H'
        obtain ⟨x0_2, x17_2, rfl, HA, HK2, HO_0, HK, HB⟩ := hrel
        cases gk with
        | zero => exact absurd HA.out (by simp [api_Write_116.l3])
        | succ k2 =>
         have H := HA.out
         clear HA
         simp only [api_Write_116.l3] at H
         by_cases c48 : x17_2 > x14_1
         ·rw [if_pos c48] at H
          have c48b0 : decide (x14_1 < x17_2) = true := decide_eq_true c48
          clear c48
          obtain ⟨ji49, hji49⟩ : ∃ j_ : Int, (wrap64 (x17_2 - 1)) = j_ := ⟨_, rfl⟩
          replace H : (if 0 ≤ (ji49) then (if (ji49) < (x0_2.length : Int) then (if 0 ≤ x17_2 then (if x17_2 < (x0_2.length : Int) then (api_Write_116.l3 k2 ((x0_2.set (x17_2 : Int).toNat (⟨(rd_T120 x0_2 (ji49)).f0, (rd_T120 x0_2 (ji49)).f1, (rd_T120 x0_2 (ji49)).f2⟩ : S120)).set ((ji49) : Int).toNat (⟨(rd_T120 x0_2 x17_2).f0, (rd_T120 x0_2 x17_2).f1, (rd_T120 x0_2 x17_2).f2⟩ : S120)) x14_1 ji49) else (none)) else (none)) else (none)) else (none)) = some r := by first | (rw [hji49] at H; exact H) | (simp only [hji49] at H ⊢; exact H)
          have hji49w : (IntKind.i64.wrap (x17_2 - 1)) = ji49 := (i64_w _).trans hji49
          by_cases c50 : 0 ≤ (ji49)
          ·rw [if_pos c50] at H
           have c50b0 : decide (0 ≤ (ji49)) = true := decide_eq_true c50
           clear c50
           by_cases c51 : (ji49) < (x0_2.length : Int)
           ·rw [if_pos c51] at H
            have c51b0 : decide ((ji49) < (x0_2.length : Int)) = true := decide_eq_true c51
            clear c51
            by_cases c52 : 0 ≤ x17_2
            ·rw [if_pos c52] at H
             have c52b0 : decide (0 ≤ x17_2) = true := decide_eq_true c52
             clear c52
             by_cases c53 : x17_2 < (x0_2.length : Int)
             ·rw [if_pos c53] at H
              have c53b0 : decide (x17_2 < (x0_2.length : Int)) = true := decide_eq_true c53
              clear c53
              obtain ⟨y186, hy186⟩ : ∃ y_ : List (S120), y_ = (x0_2.set (x17_2 : Int).toNat (⟨(rd_T120 x0_2 (ji49)).f0, (rd_T120 x0_2 (ji49)).f1, (rd_T120 x0_2 (ji49)).f2⟩ : S120)) := ⟨_, rfl⟩
              replace H : (api_Write_116.l3 k2 (y186.set ((ji49) : Int).toNat (⟨(rd_T120 x0_2 x17_2).f0, (rd_T120 x0_2 x17_2).f1, (rd_T120 x0_2 x17_2).f2⟩ : S120)) x14_1 ji49) = some r := by first | (rw [hy186]; with_reducible exact H) | (have H2_ := (Option.bind_some _ _).symm.trans H; rw [hy186]; with_reducible exact H2_) | (have H2_ := (Option.bind_some _ _).symm.trans H; with_reducible exact H2_) | with_reducible exact H | (rw [hy186]; exact H) | exact H
              have Ny186 := a0_ hy186
              clear hy186
              obtain ⟨y187, hy187⟩ : ∃ y_ : List (S120), y_ = (y186.set ((ji49) : Int).toNat (⟨(rd_T120 x0_2 x17_2).f0, (rd_T120 x0_2 x17_2).f1, (rd_T120 x0_2 x17_2).f2⟩ : S120)) := ⟨_, rfl⟩
              replace H : (api_Write_116.l3 k2 y187 x14_1 ji49) = some r := by first | (rw [hy187]; with_reducible exact H) | (have H2_ := (Option.bind_some _ _).symm.trans H; rw [hy187]; with_reducible exact H2_) | (have H2_ := (Option.bind_some _ _).symm.trans H; with_reducible exact H2_) | with_reducible exact H | (rw [hy187]; exact H) | exact H
              have Ny187 := a0_ hy187
              clear hy187
              have H' := a0_ H
              clear H
              try go_wp2
              have n0_ := a0_ (Kd.R_drew HO_0.out)
              have n1_ := a0_ (Kept.drew HK.out)
              have n2_ := a0_ (below_drew1 HB.out)
              clear HO_0
              clear HK
              clear HB
              have HO_0 := n0_
              have HK := n1_
              have HB := n2_
              clear n0_ n1_ n2_
              obtain ⟨Ao57, co57, eo57⟩ := Kd.R_slice HO_0.out
              (first | subst eo57 | (injection eo57 with f1_ f2_ f3_; have f4_ := f1_.symm; have f5_ := f3_.symm; clear f1_ f2_ f3_; subst f4_; subst f5_))
              have p184 : 0 ≤ ((ji49) : Int) := of_decide_eq_true z10_
              have q184 : (ji49) < (x0_2.length : Int) := of_decide_eq_true z10_
              obtain ⟨ad184, e184, hx184_0, hx184_1, hx184_2⟩ := at_T120 (Kd.R_reads' HO_0.out).2.2 (ji49) p184 q184
              cases e184
              replace p184 := eq_true p184
              replace q184 := eq_true q184
              have p185 : 0 ≤ (x17_2 : Int) := of_decide_eq_true z10_
              have q185 : x17_2 < (x0_2.length : Int) := of_decide_eq_true z10_
              obtain ⟨ad185, e185, hx185_0, hx185_1, hx185_2⟩ := at_T120 (Kd.R_reads' HO_0.out).2.2 x17_2 p185 q185
              obtain rfl : ad184 = ad185 := (by injection e185)
              replace p185 := eq_true p185
              replace q185 := eq_true q185
              have p54 : 0 ≤ (x17_2 : Int) := of_decide_eq_true z10_
              have q54 : (x17_2 : Int) < ((x0_2.length : Int) : Int) := of_decide_eq_true z10_
              obtain ⟨go54, co54, eo54, gb54, gl54, cl54, HG54⟩ := Kd.R_form HO_0.out z7_
              (first | cases eo54 | (injection eo54 with ea_ en_ ec_; (first | subst ea_ | (injection ea_ with ea_; subst ea_)); subst ec_; clear en_))
              have GB54 := a0_ gb54
              have GG54 := a0_ HG54
              clear gb54 gl54 HG54
              have HMgo54 := a0_ (show (P0_ go54 ∨ w.heap.size ≤ go54) from (HO_0.out.1 _ rfl))
              (first | simp only [add_plain] at hx184_0 | skip)
              (first | simp only [add_plain] at hx184_1 | skip)
              (first | simp only [add_plain] at hx184_2 | skip)
              (first | simp only [add_plain] at hx185_0 | skip)
              (first | simp only [add_plain] at hx185_1 | skip)
              (first | simp only [add_plain] at hx185_2 | skip)
              obtain ⟨ce54, hcl54, hM54, hcc54, hfr54⟩ := Kd.R_elem HO_0.out z120 (x17_2 : Int) p54 q54
              obtain rfl := k120_openM hM54
              have hx54_0 : World.cell? _ ⟨go54, (x17_2 : Int).toNat * 3, none⟩ = some (.int .i64 ((rd_T120 x0_2 x17_2).f0)) := hcc54 0 _ rfl
              have hx54_1 : World.cell? _ ⟨go54, (x17_2 : Int).toNat * 3 + 1, none⟩ = some (.int .i64 ((rd_T120 x0_2 x17_2).f1)) := hcc54 1 _ rfl
              have hx54_2 : World.cell? _ ⟨go54, (x17_2 : Int).toNat * 3 + 2, none⟩ = some (.string ((rd_T120 x0_2 x17_2).f2)) := hcc54 2 _ rfl
              have hf54_0 : World.frozen? _ ⟨go54, (x17_2 : Int).toNat * 3, none⟩ = false := hfr54 0
              have hf54_1 : World.frozen? _ ⟨go54, (x17_2 : Int).toNat * 3 + 1, none⟩ = false := hfr54 1
              have hf54_2 : World.frozen? _ ⟨go54, (x17_2 : Int).toNat * 3 + 2, none⟩ = false := hfr54 2
              clear hcl54 hcc54 hfr54 hM54
              replace p54 := eq_true p54
              replace q54 := eq_true q54
              obtain ⟨ce58, hcl58, hM58, hcc58, hfr58⟩ := Kd.R_elem HO_0.out z120 (x17_2 : Int) (of_decide_eq_true z10_) (by have h_ : (x17_2 : Int) < ((x0_2.length : Int) : Int) := of_decide_eq_true z10_; first | exact h_ | (have e_ := (Kd.R_reads' HO_0.out).1; omega) | simpa using h_)
              obtain rfl := k120_openM hM58
              have HP58 := (Kd.R_seg HO_0.out (x17_2 : Int) (of_decide_eq_true z10_) (by have h_ : (x17_2 : Int) < ((x0_2.length : Int) : Int) := of_decide_eq_true z10_; first | exact h_ | (have e_ := (Kd.R_reads' HO_0.out).1; omega) | simpa using h_) (seg := [.int .i64 ((rd_T120 x0_2 (ji49)).f0), .int .i64 ((rd_T120 x0_2 (ji49)).f1), .string ((rd_T120 x0_2 (ji49)).f2)]) (j := 0) hcl58 hcc58 (show 3 ≤ 3 from z8_) (x' := (⟨(rd_T120 x0_2 (ji49)).f0, (rd_T120 x0_2 (ji49)).f1, (rd_T120 x0_2 (ji49)).f2⟩ : S120)) (k120_mkM _ _ _ (⟨(rd_T120 x0_2 (ji49)).f0, (rd_T120 x0_2 (ji49)).f1, (rd_T120 x0_2 (ji49)).f2⟩ : S120) ) (fun _ hk => hk)).1
              rw [← Ny186.out] at HP58
              have HQ58 := a0_ HP58
              clear hcl58 hcc58 hfr58 hM58 HP58
              have p55 : 0 ≤ ((ji49) : Int) := of_decide_eq_true z10_
              have q55 : ((ji49) : Int) < ((x0_2.length : Int) : Int) := of_decide_eq_true z10_
              obtain ⟨ce55, hcl55, hM55, hcc55, hfr55⟩ := Kd.R_elem HQ58.out z120 ((ji49) : Int) p55 q55
              obtain rfl := k120_openM hM55
              have hx55_0 : World.cell? _ ⟨go54, ((ji49) : Int).toNat * 3, none⟩ = some (.int .i64 ((rd_T120 y186 (ji49)).f0)) := hcc55 0 _ rfl
              have hx55_1 : World.cell? _ ⟨go54, ((ji49) : Int).toNat * 3 + 1, none⟩ = some (.int .i64 ((rd_T120 y186 (ji49)).f1)) := hcc55 1 _ rfl
              have hx55_2 : World.cell? _ ⟨go54, ((ji49) : Int).toNat * 3 + 2, none⟩ = some (.string ((rd_T120 y186 (ji49)).f2)) := hcc55 2 _ rfl
              have hf55_0 : World.frozen? _ ⟨go54, ((ji49) : Int).toNat * 3, none⟩ = false := hfr55 0
              have hf55_1 : World.frozen? _ ⟨go54, ((ji49) : Int).toNat * 3 + 1, none⟩ = false := hfr55 1
              have hf55_2 : World.frozen? _ ⟨go54, ((ji49) : Int).toNat * 3 + 2, none⟩ = false := hfr55 2
              clear hcl55 hcc55 hfr55 hM55
              replace p55 := eq_true p55
              replace q55 := eq_true q55
              obtain ⟨ce59, hcl59, hM59, hcc59, hfr59⟩ := Kd.R_elem HQ58.out z120 ((ji49) : Int) (of_decide_eq_true z10_) (by have h_ : ((ji49) : Int) < ((x0_2.length : Int) : Int) := of_decide_eq_true z10_; first | exact h_ | (have e_ := (Kd.R_reads' HO_0.out).1; omega) | simpa using h_)
              obtain rfl := k120_openM hM59
              have HP59 := (Kd.R_seg HQ58.out ((ji49) : Int) (of_decide_eq_true z10_) (by have h_ : ((ji49) : Int) < ((x0_2.length : Int) : Int) := of_decide_eq_true z10_; first | exact h_ | (have e_ := (Kd.R_reads' HO_0.out).1; omega) | simpa using h_) (seg := [.int .i64 ((rd_T120 x0_2 x17_2).f0), .int .i64 ((rd_T120 x0_2 x17_2).f1), .string ((rd_T120 x0_2 x17_2).f2)]) (j := 0) hcl59 hcc59 (show 3 ≤ 3 from z8_) (x' := (⟨(rd_T120 x0_2 x17_2).f0, (rd_T120 x0_2 x17_2).f1, (rd_T120 x0_2 x17_2).f2⟩ : S120)) (k120_mkM _ _ _ (⟨(rd_T120 x0_2 x17_2).f0, (rd_T120 x0_2 x17_2).f1, (rd_T120 x0_2 x17_2).f2⟩ : S120) ) (fun _ hk => hk)).1
              rw [← Ny187.out] at HP59
              have HQ59 := a0_ HP59
              clear hcl59 hcc59 hfr59 hM59 HP59
              refine st_ 18 (S := fun w' => w'.cell? ⟨go54, (((ji49)).toNat * 3), none⟩ = some (.int .i64 ((rd_T120 x0_2 (ji49)).f0)) ∧ w'.cell? ⟨go54, (((ji49)).toNat * 3) + 1, none⟩ = some (.int .i64 ((rd_T120 x0_2 (ji49)).f1)) ∧ w'.cell? ⟨go54, (((ji49)).toNat * 3) + 2, none⟩ = some (.string ((rd_T120 x0_2 (ji49)).f2)) ∧ w'.cell? ⟨go54, ((x17_2).toNat * 3), none⟩ = some (.int .i64 ((rd_T120 x0_2 x17_2).f0)) ∧ w'.cell? ⟨go54, ((x17_2).toNat * 3) + 1, none⟩ = some (.int .i64 ((rd_T120 x0_2 x17_2).f1)) ∧ w'.cell? ⟨go54, ((x17_2).toNat * 3) + 2, none⟩ = some (.string ((rd_T120 x0_2 x17_2).f2))) (ds := [15, 17]) ⟨hx184_0, hx184_1, hx184_2, hx185_0, hx185_1, hx185_2⟩ (fun hHeld => ?_); refine with_tabW api_Write_116.tab23 api_Write_116.bits23 (fun HT_ HW_ => ?_)
              generalize wr.drew = w56 at HO_0 HK HB GG54 HQ58 HQ59 hf54_0 hf54_1 hf54_2 hf55_0 hf55_1 hf55_2 hx184_0 hx184_1 hx184_2 hx185_0 hx185_1 hx185_2 hx54_0 hx54_1 hx54_2 hx55_0 hx55_1 hx55_2 hHeld ⊢
              refine pq_ 0 (some 113) rfl rfl ?_
              refine pq_ 1 (some 114) rfl rfl ?_
              refine pq_ 2 (some 115) rfl rfl ?_
              refine pq_ 3 (some 116) rfl rfl ?_
              refine pq_ 4 (some 117) rfl rfl ?_
              refine pq_ 5 (some 118) rfl rfl ?_
              refine pq_ 6 (some 119) rfl rfl ?_
              refine pq_ 7 (some 120) rfl rfl ?_
              refine pq_ 8 (some 121) rfl rfl ?_
              refine pq_ 10 (some 123) rfl rfl ?_
              refine pq_ 11 (some 124) rfl rfl ?_
              refine pq_ 12 (some 125) rfl rfl ?_
              refine tq_ 9 (some 122) rfl rfl hHeld ?_
              refine tq_ 13 (some 126) rfl rfl hHeld ?_
              refine pq_ 14 (some 127) rfl rfl ?_
              refine lq_ 15 (none) rfl rfl (fun K hK => ?_)
              refine skip_ (w1 := ?_) (by rfl) rfl ?_ ?_
              rotate_left
              ·go_simp
               rfl
              refine hK.out _ _ ?_
              clear hK K
              have hkK_ : Aside0 (Kept _ (World.setCells w56 go54 (((x17_2 : Int)).toNat * k120.sz + 0) [.int .i64 ((rd_T120 x0_2 (ji49)).f0), .int .i64 ((rd_T120 x0_2 (ji49)).f1), .string ((rd_T120 x0_2 (ji49)).f2)]) _) := ⟨(Kept.setCell (Kept.setCell (Kept.setCell HK.out HMgo54.out _) HMgo54.out _) HMgo54.out _)⟩
              have hkB_ : Aside0 (Below _ _ (World.setCells w56 go54 (((x17_2 : Int)).toNat * k120.sz + 0) [.int .i64 ((rd_T120 x0_2 (ji49)).f0), .int .i64 ((rd_T120 x0_2 (ji49)).f1), .string ((rd_T120 x0_2 (ji49)).f2)])) := ⟨(below_set (below_set (below_set HB.out GB54.out) GB54.out) GB54.out)⟩
              show wpAnyLast _ _ _ _ _ _ _ _ _ (World.setCells w56 go54 (((x17_2 : Int)).toNat * k120.sz + 0) [.int .i64 ((rd_T120 x0_2 (ji49)).f0), .int .i64 ((rd_T120 x0_2 (ji49)).f1), .string ((rd_T120 x0_2 (ji49)).f2)])
              generalize (World.setCells w56 go54 (((x17_2 : Int)).toNat * k120.sz + 0) [.int .i64 ((rd_T120 x0_2 (ji49)).f0), .int .i64 ((rd_T120 x0_2 (ji49)).f1), .string ((rd_T120 x0_2 (ji49)).f2)]) = wS_ at hkK_ hkB_ HQ58 HQ59 hx55_0 hx55_1 hx55_2 hf55_0 hf55_1 hf55_2 ⊢
              clear HK HB
              have HK := hkK_
              have HB := hkB_
              clear hkK_ hkB_ hHeld
              refine pq_ 16 (some 128) rfl rfl ?_
              refine lq_ 17 (none) rfl rfl (fun K hK => ?_)
              refine skip_ (w1 := ?_) (by rfl) rfl ?_ ?_
              rotate_left
              ·go_simp
               rfl
              refine hK.out _ _ ?_
              clear hK K
              refine done_ (done_of HT_.out z6_) ?_
              try go_wp2
              go_roundg k2
              case measure => have := HK1.out; have := HK2.out; omega
              case rel => exact ⟨(y187), (ji49), (by first | rfl | (simp; done) | (simp only [← hji49] <;> (first | rfl | simp)) | (simp [*]; done)), H', ⟨z80_⟩, ⟨by (with_reducible repeat (first | apply Kd.R_alloc | apply Kd.R_drewN | apply Kd.R_drew)); exact HQ59.out⟩, ⟨by repeat (first | (with_reducible first | exact HK.out | apply Kept.alloc | apply Kept.drewN | apply Kept.drew | refine Kept.setCell ?_ HMgo54.out _ | refine Kept.setCell ?_ HMgo54.out _ | refine Kept.setCell ?_ HMgo54.out _ | refine Kept.setCell ?_ HMgo54.out _ | refine Kept.setCell ?_ HMgo54.out _ | refine Kept.setCell ?_ HMgo54.out _) | exact HK.out)⟩, ⟨by repeat (first | (with_reducible first | exact HB.out | apply below_alloc | apply pw_below_drewN | apply below_drew1 | refine below_set ?_ GB54.out | refine below_set ?_ GB54.out | refine below_set ?_ GB54.out | refine below_set ?_ GB54.out | refine below_set ?_ GB54.out | refine below_set ?_ GB54.out) | exact HB.out)⟩⟩
             ·rw [if_neg c53] at H
              exact absurd H (by simp)
            ·rw [if_neg c52] at H
             exact absurd H (by simp)
           ·rw [if_neg c51] at H
            exact absurd H (by simp)
          ·rw [if_neg c50] at H
           exact absurd H (by simp)
         ·rw [if_neg c48] at H
          have c48b0 : decide (x14_1 < x17_2) = false := decide_eq_false c48
          clear c48
          obtain rfl := Option.some.inj H
          go_wp2
          first | go_end0 | ((try simp only [Exit.inBlock, Exit.then]); refine bodyPost_ret (results_none rfl _ _ _) rfl ?_)
          exact qrx90_
  ·rw [if_neg c33] at H
   have c33b0 : ((wrap64 (a3 - a2)) == 1) = false := beq_eq_false_iff_ne.mpr c33
   have c33b1 : ((wrap64 (a3 - a2)) != 1) = true := bne_iff_ne.mpr c33
   have HC60 := a0_ H
   clear H
   go_enter Try.func116, Try.ntmps116
   go_upto_if 140 with (fail)
   go_cut [20, 21] (fun v20 v21 wc => ∃ (kq : Nat) (x20_59 : Int) (x21_59 : Int), v20 = .int .i64 x20_59 ∧ v21 = .int .i64 x21_59 ∧ Aside0 (api_Write_116.j4 kq l0 a1 a2 a3 93 (wrap64 ((IntKind.u64.wrap (wrap64 (a1 + a3))) / 2)) (wrap64 ((wrap64 ((IntKind.u64.wrap (wrap64 (a1 + a3))) / 2)) + a2)) x20_59 x21_59 = some r) ∧ Aside0 (kq ≤ k) ∧ Aside0 (Kd.R k120 120 wc w0.heap.size (fun k_ => (P0_ k_ ∨ w.heap.size ≤ k_)) u9000_ l0) ∧ Aside0 (Kept w wc (fun k_ => P0_ k_)) ∧ Aside0 (Below w0.heap.size w0 wc))
   case first =>
    as_aux_lemma =>
     have H := HC60.out
     clear HC60
     by_cases c61 : a2 > (wrap64 ((IntKind.u64.wrap (wrap64 (a1 + a3))) / 2))
     ·rw [if_pos c61] at H
      have c61b0 : decide ((wrap64 ((IntKind.u64.wrap (wrap64 (a1 + a3))) / 2)) < a2) = true := decide_eq_true c61
      clear c61
      (first | rw [c61b0] | (simp only [i64_w, i32_w]; rw [c61b0]) | skip)
      have H' := a0_ H
      clear H
      go_wp2
      go_meet
      case rel => exact ⟨_, (wrap64 ((wrap64 ((wrap64 ((IntKind.u64.wrap (wrap64 (a1 + a3))) / 2)) + a2)) - a3)), (wrap64 ((IntKind.u64.wrap (wrap64 (a1 + a3))) / 2)), z4_, z4_, H', ⟨z21_⟩, ⟨z76_⟩, ⟨z77_⟩, ⟨z3_⟩⟩
     ·rw [if_neg c61] at H
      have c61b0 : decide ((wrap64 ((IntKind.u64.wrap (wrap64 (a1 + a3))) / 2)) < a2) = false := decide_eq_false c61
      clear c61
      (first | rw [c61b0] | (simp only [i64_w, i32_w]; rw [c61b0]) | skip)
      have H' := a0_ H
      clear H
      go_wp2
      go_meet
      case rel => exact ⟨_, (a1), (a2), z4_, z4_, H', ⟨z21_⟩, ⟨z76_⟩, ⟨z77_⟩, ⟨z3_⟩⟩
   case rest =>
    clear HC60
    obtain ⟨kq, x20_59, x21_59, rfl, rfl, HA, HJ59, HO_0, HK, HB⟩ := hcut
    cases kq with
    | zero => exact absurd HA.out (by simp [api_Write_116.j4])
    | succ kj59 =>
     have H := HA.out
     clear HA
     simp only [api_Write_116.j4] at H
     have H' := a0_ H
     clear H
     go_wp2
     go_loopg [20, 21] kj59 (fun kq v20 v21 w' => ∃ (x20_2 : Int) (x21_2 : Int), v20 = .int .i64 x20_2 ∧ v21 = .int .i64 x21_2 ∧ Aside0 (api_Write_116.l4 kq l0 a1 a2 a3 93 (wrap64 ((IntKind.u64.wrap (wrap64 (a1 + a3))) / 2)) (wrap64 ((wrap64 ((IntKind.u64.wrap (wrap64 (a1 + a3))) / 2)) + a2)) x20_2 x21_2 (wrap64 ((wrap64 ((wrap64 ((IntKind.u64.wrap (wrap64 (a1 + a3))) / 2)) + a2)) - 1)) = some r) ∧ Aside0 (kq ≤ kj59) ∧ Aside0 (Kd.R k120 120 w' w0.heap.size (fun k_ => (P0_ k_ ∨ w.heap.size ≤ k_)) u9000_ l0) ∧ Aside0 (Kept w w' (fun k_ => P0_ k_)) ∧ Aside0 (Below w0.heap.size w0 w'))
     case atStart => exact ⟨(x20_59), (x21_59), z4_, z4_, H', ⟨Nat.le_refl _⟩, ⟨z78_⟩, ⟨z77_⟩, ⟨z3_⟩⟩
     case round =>
      clear H'
      obtain ⟨x20_2, x21_2, rfl, rfl, HA, HK2, HO_0, HK, HB⟩ := hrel
      cases gk with
      | zero => exact absurd HA.out (by simp [api_Write_116.l4])
      | succ k2 =>
       have H := HA.out
       clear HA
       simp only [api_Write_116.l4] at H
       by_cases c62 : x20_2 < x21_2
       ·rw [if_pos c62] at H
        have c62b0 : decide (x20_2 < x21_2) = true := decide_eq_true c62
        clear c62
        obtain ⟨ji63, hji63⟩ : ∃ j_ : Int, (wrap64 ((wrap64 ((wrap64 ((wrap64 ((IntKind.u64.wrap (wrap64 (a1 + a3))) / 2)) + a2)) - 1)) - (wrap64 ((IntKind.u64.wrap (wrap64 (x20_2 + x21_2))) / 2)))) = j_ := ⟨_, rfl⟩
        replace H : (if 0 ≤ (ji63) then (if (ji63) < (l0.length : Int) then (if 0 ≤ (wrap64 ((IntKind.u64.wrap (wrap64 (x20_2 + x21_2))) / 2)) then (if (wrap64 ((IntKind.u64.wrap (wrap64 (x20_2 + x21_2))) / 2)) < (l0.length : Int) then ((fold_order.f k2 ((rd_T120 l0 (ji63)).f0) ((rd_T120 l0 (ji63)).f1) ((rd_T120 l0 (ji63)).f2) ((rd_T120 l0 (wrap64 ((IntKind.u64.wrap (wrap64 (x20_2 + x21_2))) / 2))).f0) ((rd_T120 l0 (wrap64 ((IntKind.u64.wrap (wrap64 (x20_2 + x21_2))) / 2))).f1) ((rd_T120 l0 (wrap64 ((IntKind.u64.wrap (wrap64 (x20_2 + x21_2))) / 2))).f2)).bind fun t190 => (if t190 < 0 then (api_Write_116.l4 k2 l0 a1 a2 a3 93 (wrap64 ((IntKind.u64.wrap (wrap64 (a1 + a3))) / 2)) (wrap64 ((wrap64 ((IntKind.u64.wrap (wrap64 (a1 + a3))) / 2)) + a2)) x20_2 (wrap64 ((IntKind.u64.wrap (wrap64 (x20_2 + x21_2))) / 2)) (wrap64 ((wrap64 ((wrap64 ((IntKind.u64.wrap (wrap64 (a1 + a3))) / 2)) + a2)) - 1))) else (api_Write_116.l4 k2 l0 a1 a2 a3 93 (wrap64 ((IntKind.u64.wrap (wrap64 (a1 + a3))) / 2)) (wrap64 ((wrap64 ((IntKind.u64.wrap (wrap64 (a1 + a3))) / 2)) + a2)) (wrap64 ((wrap64 ((IntKind.u64.wrap (wrap64 (x20_2 + x21_2))) / 2)) + 1)) x21_2 (wrap64 ((wrap64 ((wrap64 ((IntKind.u64.wrap (wrap64 (a1 + a3))) / 2)) + a2)) - 1))))) else (none)) else (none)) else (none)) else (none)) = some r := by first | (rw [hji63] at H; exact H) | (simp only [hji63] at H ⊢; exact H)
        have hji63w : (IntKind.i64.wrap ((wrap64 ((wrap64 ((wrap64 ((IntKind.u64.wrap (wrap64 (a1 + a3))) / 2)) + a2)) - 1)) - (wrap64 ((IntKind.u64.wrap (wrap64 (x20_2 + x21_2))) / 2)))) = ji63 := (i64_w _).trans hji63
        by_cases c64 : 0 ≤ (ji63)
        ·rw [if_pos c64] at H
         have c64b0 : decide (0 ≤ (ji63)) = true := decide_eq_true c64
         clear c64
         by_cases c65 : (ji63) < (l0.length : Int)
         ·rw [if_pos c65] at H
          have c65b0 : decide ((ji63) < (l0.length : Int)) = true := decide_eq_true c65
          clear c65
          obtain ⟨ji66, hji66⟩ : ∃ j_ : Int, (wrap64 ((IntKind.u64.wrap (wrap64 (x20_2 + x21_2))) / 2)) = j_ := ⟨_, rfl⟩
          replace H : (if 0 ≤ (ji66) then (if (ji66) < (l0.length : Int) then ((fold_order.f k2 ((rd_T120 l0 (ji63)).f0) ((rd_T120 l0 (ji63)).f1) ((rd_T120 l0 (ji63)).f2) ((rd_T120 l0 (ji66)).f0) ((rd_T120 l0 (ji66)).f1) ((rd_T120 l0 (ji66)).f2)).bind fun t190 => (if t190 < 0 then (api_Write_116.l4 k2 l0 a1 a2 a3 93 (wrap64 ((IntKind.u64.wrap (wrap64 (a1 + a3))) / 2)) (wrap64 ((wrap64 ((IntKind.u64.wrap (wrap64 (a1 + a3))) / 2)) + a2)) x20_2 ji66 (wrap64 ((wrap64 ((wrap64 ((IntKind.u64.wrap (wrap64 (a1 + a3))) / 2)) + a2)) - 1))) else (api_Write_116.l4 k2 l0 a1 a2 a3 93 (wrap64 ((IntKind.u64.wrap (wrap64 (a1 + a3))) / 2)) (wrap64 ((wrap64 ((IntKind.u64.wrap (wrap64 (a1 + a3))) / 2)) + a2)) (wrap64 ((ji66) + 1)) x21_2 (wrap64 ((wrap64 ((wrap64 ((IntKind.u64.wrap (wrap64 (a1 + a3))) / 2)) + a2)) - 1))))) else (none)) else (none)) = some r := by first | (rw [hji66] at H; exact H) | (simp only [hji66] at H ⊢; exact H)
          have hji66w : (IntKind.i64.wrap ((IntKind.u64.wrap (wrap64 (x20_2 + x21_2))) / 2)) = ji66 := (i64_w _).trans hji66
          (try rw [hji66] at hji63)
          (try rw [hji66] at hji63w)
          by_cases c67 : 0 ≤ (ji66)
          ·rw [if_pos c67] at H
           have c67b0 : decide (0 ≤ (ji66)) = true := decide_eq_true c67
           clear c67
           by_cases c68 : (ji66) < (l0.length : Int)
           ·rw [if_pos c68] at H
            have c68b0 : decide ((ji66) < (l0.length : Int)) = true := decide_eq_true c68
            clear c68
            replace H := Option.bind_eq_some_iff.mp H
            obtain ⟨t190, A690, H⟩ := H
            try dsimp only at H
            have A69 := a0_ A690
            clear A690
            by_cases c70 : t190 < 0
            ·rw [if_pos c70] at H
             have c70b0 : decide (t190 < 0) = true := decide_eq_true c70
             clear c70
             have H' := a0_ H
             clear H
             try go_wp2
             have n0_ := a0_ (Kd.R_drew HO_0.out)
             have n1_ := a0_ (Kept.drew HK.out)
             have n2_ := a0_ (below_drew1 HB.out)
             clear HO_0
             clear HK
             clear HB
             have HO_0 := n0_
             have HK := n1_
             have HB := n2_
             clear n0_ n1_ n2_
             obtain ⟨Ao72, co72, eo72⟩ := Kd.R_slice HO_0.out
             (first | subst eo72 | (injection eo72 with f1_ f2_ f3_; have f4_ := f1_.symm; have f5_ := f3_.symm; clear f1_ f2_ f3_; subst f4_; subst f5_))
             have p188 : 0 ≤ ((ji63) : Int) := of_decide_eq_true z10_
             have q188 : (ji63) < (l0.length : Int) := of_decide_eq_true z10_
             obtain ⟨ad188, e188, hx188_0, hx188_1, hx188_2⟩ := at_T120 (Kd.R_reads' HO_0.out).2.2 (ji63) p188 q188
             cases e188
             replace p188 := eq_true p188
             replace q188 := eq_true q188
             have p189 : 0 ≤ ((ji66) : Int) := of_decide_eq_true z10_
             have q189 : (ji66) < (l0.length : Int) := of_decide_eq_true z10_
             obtain ⟨ad189, e189, hx189_0, hx189_1, hx189_2⟩ := at_T120 (Kd.R_reads' HO_0.out).2.2 (ji66) p189 q189
             obtain rfl : ad188 = ad189 := (by injection e189)
             replace p189 := eq_true p189
             replace q189 := eq_true q189
             refine st_ 14 (S := fun w' => w'.cell? (ad188.add (((ji63)).toNat * 3)) = some (.int .i64 ((rd_T120 l0 (ji63)).f0)) ∧ w'.cell? ⟨(ad188.add (((ji63)).toNat * 3)).block, (ad188.add (((ji63)).toNat * 3)).off + 1, none⟩ = some (.int .i64 ((rd_T120 l0 (ji63)).f1)) ∧ w'.cell? ⟨(ad188.add (((ji63)).toNat * 3)).block, (ad188.add (((ji63)).toNat * 3)).off + 2, none⟩ = some (.string ((rd_T120 l0 (ji63)).f2)) ∧ w'.cell? (ad188.add (((ji66)).toNat * 3)) = some (.int .i64 ((rd_T120 l0 (ji66)).f0)) ∧ w'.cell? ⟨(ad188.add (((ji66)).toNat * 3)).block, (ad188.add (((ji66)).toNat * 3)).off + 1, none⟩ = some (.int .i64 ((rd_T120 l0 (ji66)).f1)) ∧ w'.cell? ⟨(ad188.add (((ji66)).toNat * 3)).block, (ad188.add (((ji66)).toNat * 3)).off + 2, none⟩ = some (.string ((rd_T120 l0 (ji66)).f2))) (ds := []) ⟨hx188_0, hx188_1, hx188_2, hx189_0, hx189_1, hx189_2⟩ (fun hHeld => ?_); refine with_tabW api_Write_116.tab35 api_Write_116.bits35 (fun HT_ HW_ => ?_)
             generalize wr.drew = w71 at HO_0 HK HB hx188_0 hx188_1 hx188_2 hx189_0 hx189_1 hx189_2 hHeld ⊢
             refine pq_ 0 (some 158) rfl rfl ?_
             refine pq_ 1 (some 159) rfl rfl ?_
             refine pq_ 2 (some 160) rfl rfl ?_
             refine pq_ 3 (some 161) rfl rfl ?_
             refine pq_ 4 (some 162) rfl rfl ?_
             refine pq_ 5 (some 163) rfl rfl ?_
             refine pq_ 7 (some 165) rfl rfl ?_
             refine pq_ 8 (some 166) rfl rfl ?_
             refine pq_ 9 (some 167) rfl rfl ?_
             refine tq_ 6 (some 164) rfl rfl hHeld ?_
             refine tq_ 10 (some 168) rfl rfl hHeld ?_
             refine oq_ 11 (some 169) rfl rfl (fun K hK => ?_)
             refine goesF_ Try.func93 z6_ rfl #[.agg #[.int .i64 ((rd_T120 l0 (ji63)).f0), .int .i64 ((rd_T120 l0 (ji63)).f1), .string ((rd_T120 l0 (ji63)).f2)], .agg #[.int .i64 ((rd_T120 l0 (ji66)).f0), .int .i64 ((rd_T120 l0 (ji66)).f1), .string ((rd_T120 l0 (ji66)).f2)]] (by rfl) rfl rfl z86_ ?_
             with_reducible refine (fold_order.calls k2 ((rd_T120 l0 (ji63)).f0) ((rd_T120 l0 (ji63)).f1) ((rd_T120 l0 (ji63)).f2) ((rd_T120 l0 (ji66)).f0) ((rd_T120 l0 (ji66)).f1) ((rd_T120 l0 (ji66)).f2) t190 _ A69.out).mono ?_
             rintro e w73 ⟨rfl, hb⟩
             have HS0_ := (hb.cell (World.block_lt_of_cell? _ _ (hHeld.1))).trans (hHeld.1)
             have HS1_ := (hb.cell (World.block_lt_of_cell? _ _ (hHeld.2.1))).trans (hHeld.2.1)
             have HS2_ := (hb.cell (World.block_lt_of_cell? _ _ (hHeld.2.2.1))).trans (hHeld.2.2.1)
             have HS3_ := (hb.cell (World.block_lt_of_cell? _ _ (hHeld.2.2.2.1))).trans (hHeld.2.2.2.1)
             have HS4_ := (hb.cell (World.block_lt_of_cell? _ _ (hHeld.2.2.2.2.1))).trans (hHeld.2.2.2.2.1)
             have HS5_ := (hb.cell (World.block_lt_of_cell? _ _ (hHeld.2.2.2.2.2))).trans (hHeld.2.2.2.2.2)
             refine ⟨_, rfl, ?_⟩
             have n0_ := a0_ (Kd.R_below z78_ hb)
             have n1_ := a0_ (Kept.below (S := (fun k_ => P0_ k_)) z77_ hb)
             have n2_ := a0_ (below_step z3_ hb)
             clear HO_0
             clear HK
             clear HB
             have HO_0 := n0_
             have HK := n1_
             have HB := n2_
             clear n0_ n1_ n2_
             (try clear hb)
             (try clear hb2)
             (try clear hk)
             (try clear hi)
             refine hK.out _ _ ⟨HS0_, HS1_, HS2_, HS3_, HS4_, HS5_⟩ (fun hHeld => ?_)
             clear hK K
             refine norm_ (a' := ?_) ?_ ?_
             rotate_left
             ·show Act.put _ (some 169) _ = _
              exact put_
             refine pq_ 12 (some 170) rfl rfl ?_
             refine pq_ 13 (some 171) rfl rfl ?_
             refine done_ (done_of HT_.out z6_) ?_
             try go_wp2
             go_roundg k2
             case measure => have := HJ59.out; have := HK2.out; omega
             case rel => exact ⟨(x20_2), (ji66), z4_, z87_, H', ⟨by have := HJ59.out; have := HK2.out; omega⟩, ⟨z78_⟩, ⟨z77_⟩, ⟨z3_⟩⟩
            ·rw [if_neg c70] at H
             have c70b0 : decide (t190 < 0) = false := decide_eq_false c70
             clear c70
             have H' := a0_ H
             clear H
             try go_wp2
             have n0_ := a0_ (Kd.R_drew HO_0.out)
             have n1_ := a0_ (Kept.drew HK.out)
             have n2_ := a0_ (below_drew1 HB.out)
             clear HO_0
             clear HK
             clear HB
             have HO_0 := n0_
             have HK := n1_
             have HB := n2_
             clear n0_ n1_ n2_
             obtain ⟨Ao75, co75, eo75⟩ := Kd.R_slice HO_0.out
             (first | subst eo75 | (injection eo75 with f1_ f2_ f3_; have f4_ := f1_.symm; have f5_ := f3_.symm; clear f1_ f2_ f3_; subst f4_; subst f5_))
             have p188 : 0 ≤ ((ji63) : Int) := of_decide_eq_true z10_
             have q188 : (ji63) < (l0.length : Int) := of_decide_eq_true z10_
             obtain ⟨ad188, e188, hx188_0, hx188_1, hx188_2⟩ := at_T120 (Kd.R_reads' HO_0.out).2.2 (ji63) p188 q188
             cases e188
             replace p188 := eq_true p188
             replace q188 := eq_true q188
             have p189 : 0 ≤ ((ji66) : Int) := of_decide_eq_true z10_
             have q189 : (ji66) < (l0.length : Int) := of_decide_eq_true z10_
             obtain ⟨ad189, e189, hx189_0, hx189_1, hx189_2⟩ := at_T120 (Kd.R_reads' HO_0.out).2.2 (ji66) p189 q189
             obtain rfl : ad188 = ad189 := (by injection e189)
             replace p189 := eq_true p189
             replace q189 := eq_true q189
             refine st_ 14 (S := fun w' => w'.cell? (ad188.add (((ji63)).toNat * 3)) = some (.int .i64 ((rd_T120 l0 (ji63)).f0)) ∧ w'.cell? ⟨(ad188.add (((ji63)).toNat * 3)).block, (ad188.add (((ji63)).toNat * 3)).off + 1, none⟩ = some (.int .i64 ((rd_T120 l0 (ji63)).f1)) ∧ w'.cell? ⟨(ad188.add (((ji63)).toNat * 3)).block, (ad188.add (((ji63)).toNat * 3)).off + 2, none⟩ = some (.string ((rd_T120 l0 (ji63)).f2)) ∧ w'.cell? (ad188.add (((ji66)).toNat * 3)) = some (.int .i64 ((rd_T120 l0 (ji66)).f0)) ∧ w'.cell? ⟨(ad188.add (((ji66)).toNat * 3)).block, (ad188.add (((ji66)).toNat * 3)).off + 1, none⟩ = some (.int .i64 ((rd_T120 l0 (ji66)).f1)) ∧ w'.cell? ⟨(ad188.add (((ji66)).toNat * 3)).block, (ad188.add (((ji66)).toNat * 3)).off + 2, none⟩ = some (.string ((rd_T120 l0 (ji66)).f2))) (ds := []) ⟨hx188_0, hx188_1, hx188_2, hx189_0, hx189_1, hx189_2⟩ (fun hHeld => ?_); refine with_tabW api_Write_116.tab35 api_Write_116.bits35 (fun HT_ HW_ => ?_)
             generalize wr.drew = w74 at HO_0 HK HB hx188_0 hx188_1 hx188_2 hx189_0 hx189_1 hx189_2 hHeld ⊢
             refine pq_ 0 (some 158) rfl rfl ?_
             refine pq_ 1 (some 159) rfl rfl ?_
             refine pq_ 2 (some 160) rfl rfl ?_
             refine pq_ 3 (some 161) rfl rfl ?_
             refine pq_ 4 (some 162) rfl rfl ?_
             refine pq_ 5 (some 163) rfl rfl ?_
             refine pq_ 7 (some 165) rfl rfl ?_
             refine pq_ 8 (some 166) rfl rfl ?_
             refine pq_ 9 (some 167) rfl rfl ?_
             refine tq_ 6 (some 164) rfl rfl hHeld ?_
             refine tq_ 10 (some 168) rfl rfl hHeld ?_
             refine oq_ 11 (some 169) rfl rfl (fun K hK => ?_)
             refine goesF_ Try.func93 z6_ rfl #[.agg #[.int .i64 ((rd_T120 l0 (ji63)).f0), .int .i64 ((rd_T120 l0 (ji63)).f1), .string ((rd_T120 l0 (ji63)).f2)], .agg #[.int .i64 ((rd_T120 l0 (ji66)).f0), .int .i64 ((rd_T120 l0 (ji66)).f1), .string ((rd_T120 l0 (ji66)).f2)]] (by rfl) rfl rfl z86_ ?_
             with_reducible refine (fold_order.calls k2 ((rd_T120 l0 (ji63)).f0) ((rd_T120 l0 (ji63)).f1) ((rd_T120 l0 (ji63)).f2) ((rd_T120 l0 (ji66)).f0) ((rd_T120 l0 (ji66)).f1) ((rd_T120 l0 (ji66)).f2) t190 _ A69.out).mono ?_
             rintro e w76 ⟨rfl, hb⟩
             have HS0_ := (hb.cell (World.block_lt_of_cell? _ _ (hHeld.1))).trans (hHeld.1)
             have HS1_ := (hb.cell (World.block_lt_of_cell? _ _ (hHeld.2.1))).trans (hHeld.2.1)
             have HS2_ := (hb.cell (World.block_lt_of_cell? _ _ (hHeld.2.2.1))).trans (hHeld.2.2.1)
             have HS3_ := (hb.cell (World.block_lt_of_cell? _ _ (hHeld.2.2.2.1))).trans (hHeld.2.2.2.1)
             have HS4_ := (hb.cell (World.block_lt_of_cell? _ _ (hHeld.2.2.2.2.1))).trans (hHeld.2.2.2.2.1)
             have HS5_ := (hb.cell (World.block_lt_of_cell? _ _ (hHeld.2.2.2.2.2))).trans (hHeld.2.2.2.2.2)
             refine ⟨_, rfl, ?_⟩
             have n0_ := a0_ (Kd.R_below z78_ hb)
             have n1_ := a0_ (Kept.below (S := (fun k_ => P0_ k_)) z77_ hb)
             have n2_ := a0_ (below_step z3_ hb)
             clear HO_0
             clear HK
             clear HB
             have HO_0 := n0_
             have HK := n1_
             have HB := n2_
             clear n0_ n1_ n2_
             (try clear hb)
             (try clear hb2)
             (try clear hk)
             (try clear hi)
             refine hK.out _ _ ⟨HS0_, HS1_, HS2_, HS3_, HS4_, HS5_⟩ (fun hHeld => ?_)
             clear hK K
             refine norm_ (a' := ?_) ?_ ?_
             rotate_left
             ·show Act.put _ (some 169) _ = _
              exact put_
             refine pq_ 12 (some 170) rfl rfl ?_
             refine pq_ 13 (some 171) rfl rfl ?_
             refine done_ (done_of HT_.out z6_) ?_
             try go_wp2
             go_roundg k2
             case measure => have := HJ59.out; have := HK2.out; omega
             case rel => exact ⟨(wrap64 ((ji66) + 1)), (x21_2), z87_, z4_, H', ⟨by have := HJ59.out; have := HK2.out; omega⟩, ⟨z78_⟩, ⟨z77_⟩, ⟨z3_⟩⟩
           ·rw [if_neg c68] at H
            exact absurd H (by simp)
          ·rw [if_neg c67] at H
           exact absurd H (by simp)
         ·rw [if_neg c65] at H
          exact absurd H (by simp)
        ·rw [if_neg c64] at H
         exact absurd H (by simp)
       ·rw [if_neg c62] at H
        have c62b0 : decide (x20_2 < x21_2) = false := decide_eq_false c62
        clear c62
        have HC77 := a0_ H
        clear H
        go_upto_region 39 with (fail)
        go_cut [185] (fun v185 wc => ∃ (kq : Nat) (x185_76 : Bool), v185 = .bool x185_76 ∧ Aside0 (api_Write_116.j6 kq l0 a1 a2 a3 93 (wrap64 ((IntKind.u64.wrap (wrap64 (a1 + a3))) / 2)) x20_2 (wrap64 ((wrap64 ((wrap64 ((IntKind.u64.wrap (wrap64 (a1 + a3))) / 2)) + a2)) - x20_2)) x185_76 = some r) ∧ Aside0 (kq ≤ k2) ∧ Aside0 (Kd.R k120 120 wc w0.heap.size (fun k_ => (P0_ k_ ∨ w.heap.size ≤ k_)) u9000_ l0) ∧ Aside0 (Kept w wc (fun k_ => P0_ k_)) ∧ Aside0 (Below w0.heap.size w0 wc))
        case first =>
         as_aux_lemma =>
          have H := HC77.out
          clear HC77
          by_cases c78 : x20_2 < a2
          ·rw [if_pos c78] at H
           have c78b0 : decide (x20_2 < a2) = true := decide_eq_true c78
           clear c78
           (first | rw [c78b0] | (simp only [i64_w, i32_w]; rw [c78b0]) | skip)
           have H' := a0_ H
           clear H
           go_wp2
           go_meet
           case rel => exact ⟨_, (decide (a2 < (wrap64 ((wrap64 ((wrap64 ((IntKind.u64.wrap (wrap64 (a1 + a3))) / 2)) + a2)) - x20_2)))), z4_, H', ⟨z88_⟩, ⟨z78_⟩, ⟨z77_⟩, ⟨z3_⟩⟩
          ·rw [if_neg c78] at H
           have c78b0 : decide (x20_2 < a2) = false := decide_eq_false c78
           clear c78
           (first | rw [c78b0] | (simp only [i64_w, i32_w]; rw [c78b0]) | skip)
           have H' := a0_ H
           clear H
           go_wp2
           go_meet
           case rel => exact ⟨_, (false), z4_, H', ⟨z88_⟩, ⟨z78_⟩, ⟨z77_⟩, ⟨z3_⟩⟩
        case rest =>
         clear HC77
         obtain ⟨kq, x185_76, rfl, HA, HJ76, HO_0, HK, HB⟩ := hcut
         cases kq with
         | zero => exact absurd HA.out (by simp [api_Write_116.j6])
         | succ kj76 =>
          have H := HA.out
          clear HA
          simp only [api_Write_116.j6] at H
          have HC79 := a0_ H
          clear H
          go_upto_if 185 with (fail)
          go_cut [] (fun wc => ∃ (kq : Nat) (x0_78 : List (S120)), Aside0 (api_Write_116.j7 kq x0_78 a1 a3 93 (wrap64 ((IntKind.u64.wrap (wrap64 (a1 + a3))) / 2)) x20_2 (wrap64 ((wrap64 ((wrap64 ((IntKind.u64.wrap (wrap64 (a1 + a3))) / 2)) + a2)) - x20_2)) = some r) ∧ Aside0 (kq ≤ kj76) ∧ Aside0 (Kd.R k120 120 wc w0.heap.size (fun k_ => (P0_ k_ ∨ w.heap.size ≤ k_)) u9000_ x0_78) ∧ Aside0 (Kept w wc (fun k_ => P0_ k_)) ∧ Aside0 (Below w0.heap.size w0 wc))
          case first =>
           as_aux_lemma =>
            have H := HC79.out
            clear HC79
            by_cases c80 : x185_76 = true
            ·subst c80
             rw [if_pos rfl] at H
             replace H := Option.bind_eq_some_iff.mp H
             obtain ⟨t191, A810, H⟩ := H
             try dsimp only at H
             have A81 := a0_ A810
             clear A810
             have H' := a0_ H
             clear H
             obtain ⟨Ao82, co82, eo82⟩ := Kd.R_slice HO_0.out
             subst eo82
             go_wp2_with (first | ((with_reducible refine gate_callee (f := 120) rfl ?_); refine goesL_ (some 191) rfl rfl Try.func120 z6_ rfl #[.slice Ao82 l0.length co82, .int .i64 x20_2, .int .i64 a2, .int .i64 (wrap64 ((wrap64 ((wrap64 ((IntKind.u64.wrap (wrap64 (a1 + a3))) / 2)) + a2)) - x20_2)), .func (.func 93) #[] #[]] rfl z16_ ?_; (with_reducible refine (api_Write_120.calls kj76 (fun k_ => some k_ = (.slice Ao82 l0.length co82 : Value).ownBlock) (.slice Ao82 l0.length co82) l0 x20_2 a2 (wrap64 ((wrap64 ((wrap64 ((IntKind.u64.wrap (wrap64 (a1 + a3))) / 2)) + a2)) - x20_2)) 93 t191 w0 _ ?side1 ?side2 A81.out).mono ?_); (case side1 => exact z3_); (case side2 => exact z81_); rintro e w83 ⟨rfl, hy0, hb, hkp⟩; refine ⟨_, rfl, ?_⟩; have n0_ := a0_ (Kd.R_reok rfl hy0 (fun k_ e_ => HO_0.out.1 k_ e_)); have n1_ := a0_ (Kept.then_ (S := (fun k_ => P0_ k_)) z77_ hkp (fun k_ hs_ => (fun e_ => (HO_0.out.1 k_ e_.symm)) hs_)); have n2_ := a0_ (hb); clear HO_0; clear HK; clear HB; have HO_0 := n0_; have HK := n1_; have HB := n2_; clear n0_ n1_ n2_; (try clear hb); (try clear hkp); (try clear hy0)))
             go_meet
             case rel => exact ⟨_, (t191), H', ⟨z89_⟩, ⟨z78_⟩, ⟨z77_⟩, ⟨z3_⟩⟩
            ·replace c80 := Bool.eq_false_iff.mpr c80
             subst c80
             rw [if_neg (show ¬ (false = true) from z8_)] at H
             have H' := a0_ H
             clear H
             go_wp2
             go_meet
             case rel => exact ⟨_, (l0), H', ⟨z89_⟩, ⟨z78_⟩, ⟨z77_⟩, ⟨z3_⟩⟩
          case rest =>
           clear HC79
           obtain ⟨kq, x0_78, HA, HJ78, HO_0, HK, HB⟩ := hcut
           cases kq with
           | zero => exact absurd HA.out (by simp [api_Write_116.j7])
           | succ kj78 =>
            have H := HA.out
            clear HA
            simp only [api_Write_116.j7] at H
            have HC84 := a0_ H
            clear H
            go_upto_region 41 with (fail)
            go_cut [199] (fun v199 wc => ∃ (kq : Nat) (x199_83 : Bool), v199 = .bool x199_83 ∧ Aside0 (api_Write_116.j8 kq x0_78 a1 a3 93 (wrap64 ((IntKind.u64.wrap (wrap64 (a1 + a3))) / 2)) x20_2 (wrap64 ((wrap64 ((wrap64 ((IntKind.u64.wrap (wrap64 (a1 + a3))) / 2)) + a2)) - x20_2)) x199_83 = some r) ∧ Aside0 (kq ≤ kj78) ∧ Aside0 (Kd.R k120 120 wc w0.heap.size (fun k_ => (P0_ k_ ∨ w.heap.size ≤ k_)) u9000_ x0_78) ∧ Aside0 (Kept w wc (fun k_ => P0_ k_)) ∧ Aside0 (Below w0.heap.size w0 wc))
            case first =>
             as_aux_lemma =>
              have H := HC84.out
              clear HC84
              by_cases c85 : a1 < x20_2
              ·rw [if_pos c85] at H
               have c85b0 : decide (a1 < x20_2) = true := decide_eq_true c85
               clear c85
               (first | rw [c85b0] | (simp only [i64_w, i32_w]; rw [c85b0]) | skip)
               have H' := a0_ H
               clear H
               go_wp2
               go_meet
               case rel => exact ⟨_, (decide (x20_2 < (wrap64 ((IntKind.u64.wrap (wrap64 (a1 + a3))) / 2)))), z4_, H', ⟨z90_⟩, ⟨z78_⟩, ⟨z77_⟩, ⟨z3_⟩⟩
              ·rw [if_neg c85] at H
               have c85b0 : decide (a1 < x20_2) = false := decide_eq_false c85
               clear c85
               (first | rw [c85b0] | (simp only [i64_w, i32_w]; rw [c85b0]) | skip)
               have H' := a0_ H
               clear H
               go_wp2
               go_meet
               case rel => exact ⟨_, (false), z4_, H', ⟨z90_⟩, ⟨z78_⟩, ⟨z77_⟩, ⟨z3_⟩⟩
            case rest =>
             clear HC84
             obtain ⟨kq, x199_83, rfl, HA, HJ83, HO_0, HK, HB⟩ := hcut
             cases kq with
             | zero => exact absurd HA.out (by simp [api_Write_116.j8])
             | succ kj83 =>
              have H := HA.out
              clear HA
              simp only [api_Write_116.j8] at H
              by_cases c86 : x199_83 = true
              ·subst c86
               rw [if_pos rfl] at H
               replace H := Option.bind_eq_some_iff.mp H
               obtain ⟨t192, A870, H⟩ := H
               try dsimp only at H
               have A87 := a0_ A870
               clear A870
               by_cases c88 : (wrap64 ((IntKind.u64.wrap (wrap64 (a1 + a3))) / 2)) < (wrap64 ((wrap64 ((wrap64 ((IntKind.u64.wrap (wrap64 (a1 + a3))) / 2)) + a2)) - x20_2))
               ·rw [if_pos c88] at H
                have c88b0 : decide ((wrap64 ((IntKind.u64.wrap (wrap64 (a1 + a3))) / 2)) < (wrap64 ((wrap64 ((wrap64 ((IntKind.u64.wrap (wrap64 (a1 + a3))) / 2)) + a2)) - x20_2))) = true := decide_eq_true c88
                clear c88
                by_cases c89 : (wrap64 ((wrap64 ((wrap64 ((IntKind.u64.wrap (wrap64 (a1 + a3))) / 2)) + a2)) - x20_2)) < a3
                ·rw [if_pos c89] at H
                 have c89b0 : decide ((wrap64 ((wrap64 ((wrap64 ((IntKind.u64.wrap (wrap64 (a1 + a3))) / 2)) + a2)) - x20_2)) < a3) = true := decide_eq_true c89
                 clear c89
                 replace H := Option.bind_eq_some_iff.mp H
                 obtain ⟨t193, A900, H⟩ := H
                 try dsimp only at H
                 have A90 := a0_ A900
                 clear A900
                 obtain rfl := Option.some.inj H
                 obtain ⟨Ao91, co91, eo91⟩ := Kd.R_slice HO_0.out
                 subst eo91
                 go_wp2_with (first | ((with_reducible refine gate_callee (f := 116) rfl ?_); refine goesL_ (some 205) rfl rfl Try.func116 z6_ rfl #[.slice Ao91 x0_78.length co91, .int .i64 a1, .int .i64 x20_2, .int .i64 (wrap64 ((IntKind.u64.wrap (wrap64 (a1 + a3))) / 2)), .func (.func 93) #[] #[]] rfl z16_ ?_; (with_reducible refine (ih kj83 z91_ (fun k_ => some k_ = (.slice Ao91 x0_78.length co91 : Value).ownBlock) (.slice Ao91 x0_78.length co91) x0_78 a1 x20_2 (wrap64 ((IntKind.u64.wrap (wrap64 (a1 + a3))) / 2)) 93 t192 w0 _ ?side1 ?side2 A87.out).mono ?_); (case side1 => exact z3_); (case side2 => exact z81_); rintro e w92 ⟨rfl, hy0, hb, hkp⟩; refine ⟨_, rfl, ?_⟩; have n0_ := a0_ (Kd.R_reok rfl hy0 (fun k_ e_ => HO_0.out.1 k_ e_)); have n1_ := a0_ (Kept.then_ (S := (fun k_ => P0_ k_)) z77_ hkp (fun k_ hs_ => (fun e_ => (HO_0.out.1 k_ e_.symm)) hs_)); have n2_ := a0_ (hb); clear HO_0; clear HK; clear HB; have HO_0 := n0_; have HK := n1_; have HB := n2_; clear n0_ n1_ n2_; (try clear hb); (try clear hkp); (try clear hy0)) | ((with_reducible refine gate_callee (f := 116) rfl ?_); refine goesL_ (some 219) rfl rfl Try.func116 z6_ rfl #[.slice Ao91 x0_78.length co91, .int .i64 (wrap64 ((IntKind.u64.wrap (wrap64 (a1 + a3))) / 2)), .int .i64 (wrap64 ((wrap64 ((wrap64 ((IntKind.u64.wrap (wrap64 (a1 + a3))) / 2)) + a2)) - x20_2)), .int .i64 a3, .func (.func 93) #[] #[]] rfl z16_ ?_; (with_reducible refine (ih kj83 z91_ (fun k_ => some k_ = (.slice Ao91 x0_78.length co91 : Value).ownBlock) (.slice Ao91 x0_78.length co91) t192 (wrap64 ((IntKind.u64.wrap (wrap64 (a1 + a3))) / 2)) (wrap64 ((wrap64 ((wrap64 ((IntKind.u64.wrap (wrap64 (a1 + a3))) / 2)) + a2)) - x20_2)) a3 93 t193 w0 _ ?side1 ?side2 A90.out).mono ?_); (case side1 => exact z3_); (case side2 => exact z81_); rintro e w93 ⟨rfl, hy0, hb, hkp⟩; refine ⟨_, rfl, ?_⟩; have n0_ := a0_ (Kd.R_reok rfl hy0 (fun k_ e_ => HO_0.out.1 k_ e_)); have n1_ := a0_ (Kept.then_ (S := (fun k_ => P0_ k_)) z77_ hkp (fun k_ hs_ => (fun e_ => (HO_0.out.1 k_ e_.symm)) hs_)); have n2_ := a0_ (hb); clear HO_0; clear HK; clear HB; have HO_0 := n0_; have HK := n1_; have HB := n2_; clear n0_ n1_ n2_; (try clear hb); (try clear hkp); (try clear hy0)))
                 first | go_end0 | ((try simp only [Exit.inBlock, Exit.then]); refine bodyPost_ret (results_none rfl _ _ _) rfl ?_)
                 exact qrx90_
                ·rw [if_neg c89] at H
                 have c89b0 : decide ((wrap64 ((wrap64 ((wrap64 ((IntKind.u64.wrap (wrap64 (a1 + a3))) / 2)) + a2)) - x20_2)) < a3) = false := decide_eq_false c89
                 clear c89
                 obtain rfl := Option.some.inj H
                 obtain ⟨Ao94, co94, eo94⟩ := Kd.R_slice HO_0.out
                 subst eo94
                 go_wp2_with (first | ((with_reducible refine gate_callee (f := 116) rfl ?_); refine goesL_ (some 205) rfl rfl Try.func116 z6_ rfl #[.slice Ao94 x0_78.length co94, .int .i64 a1, .int .i64 x20_2, .int .i64 (wrap64 ((IntKind.u64.wrap (wrap64 (a1 + a3))) / 2)), .func (.func 93) #[] #[]] rfl z16_ ?_; (with_reducible refine (ih kj83 z91_ (fun k_ => some k_ = (.slice Ao94 x0_78.length co94 : Value).ownBlock) (.slice Ao94 x0_78.length co94) x0_78 a1 x20_2 (wrap64 ((IntKind.u64.wrap (wrap64 (a1 + a3))) / 2)) 93 t192 w0 _ ?side1 ?side2 A87.out).mono ?_); (case side1 => exact z3_); (case side2 => exact z81_); rintro e w95 ⟨rfl, hy0, hb, hkp⟩; refine ⟨_, rfl, ?_⟩; have n0_ := a0_ (Kd.R_reok rfl hy0 (fun k_ e_ => HO_0.out.1 k_ e_)); have n1_ := a0_ (Kept.then_ (S := (fun k_ => P0_ k_)) z77_ hkp (fun k_ hs_ => (fun e_ => (HO_0.out.1 k_ e_.symm)) hs_)); have n2_ := a0_ (hb); clear HO_0; clear HK; clear HB; have HO_0 := n0_; have HK := n1_; have HB := n2_; clear n0_ n1_ n2_; (try clear hb); (try clear hkp); (try clear hy0)))
                 first | go_end0 | ((try simp only [Exit.inBlock, Exit.then]); refine bodyPost_ret (results_none rfl _ _ _) rfl ?_)
                 exact qrx90_
               ·rw [if_neg c88] at H
                have c88b0 : decide ((wrap64 ((IntKind.u64.wrap (wrap64 (a1 + a3))) / 2)) < (wrap64 ((wrap64 ((wrap64 ((IntKind.u64.wrap (wrap64 (a1 + a3))) / 2)) + a2)) - x20_2))) = false := decide_eq_false c88
                clear c88
                obtain rfl := Option.some.inj H
                obtain ⟨Ao96, co96, eo96⟩ := Kd.R_slice HO_0.out
                subst eo96
                go_wp2_with (first | ((with_reducible refine gate_callee (f := 116) rfl ?_); refine goesL_ (some 205) rfl rfl Try.func116 z6_ rfl #[.slice Ao96 x0_78.length co96, .int .i64 a1, .int .i64 x20_2, .int .i64 (wrap64 ((IntKind.u64.wrap (wrap64 (a1 + a3))) / 2)), .func (.func 93) #[] #[]] rfl z16_ ?_; (with_reducible refine (ih kj83 z91_ (fun k_ => some k_ = (.slice Ao96 x0_78.length co96 : Value).ownBlock) (.slice Ao96 x0_78.length co96) x0_78 a1 x20_2 (wrap64 ((IntKind.u64.wrap (wrap64 (a1 + a3))) / 2)) 93 t192 w0 _ ?side1 ?side2 A87.out).mono ?_); (case side1 => exact z3_); (case side2 => exact z81_); rintro e w97 ⟨rfl, hy0, hb, hkp⟩; refine ⟨_, rfl, ?_⟩; have n0_ := a0_ (Kd.R_reok rfl hy0 (fun k_ e_ => HO_0.out.1 k_ e_)); have n1_ := a0_ (Kept.then_ (S := (fun k_ => P0_ k_)) z77_ hkp (fun k_ hs_ => (fun e_ => (HO_0.out.1 k_ e_.symm)) hs_)); have n2_ := a0_ (hb); clear HO_0; clear HK; clear HB; have HO_0 := n0_; have HK := n1_; have HB := n2_; clear n0_ n1_ n2_; (try clear hb); (try clear hkp); (try clear hy0)))
                first | go_end0 | ((try simp only [Exit.inBlock, Exit.then]); refine bodyPost_ret (results_none rfl _ _ _) rfl ?_)
                exact qrx90_
              ·replace c86 := Bool.eq_false_iff.mpr c86
               subst c86
               rw [if_neg (show ¬ (false = true) from z8_)] at H
               by_cases c98 : (wrap64 ((IntKind.u64.wrap (wrap64 (a1 + a3))) / 2)) < (wrap64 ((wrap64 ((wrap64 ((IntKind.u64.wrap (wrap64 (a1 + a3))) / 2)) + a2)) - x20_2))
               ·rw [if_pos c98] at H
                have c98b0 : decide ((wrap64 ((IntKind.u64.wrap (wrap64 (a1 + a3))) / 2)) < (wrap64 ((wrap64 ((wrap64 ((IntKind.u64.wrap (wrap64 (a1 + a3))) / 2)) + a2)) - x20_2))) = true := decide_eq_true c98
                clear c98
                by_cases c99 : (wrap64 ((wrap64 ((wrap64 ((IntKind.u64.wrap (wrap64 (a1 + a3))) / 2)) + a2)) - x20_2)) < a3
                ·rw [if_pos c99] at H
                 have c99b0 : decide ((wrap64 ((wrap64 ((wrap64 ((IntKind.u64.wrap (wrap64 (a1 + a3))) / 2)) + a2)) - x20_2)) < a3) = true := decide_eq_true c99
                 clear c99
                 replace H := Option.bind_eq_some_iff.mp H
                 obtain ⟨t194, A1000, H⟩ := H
                 try dsimp only at H
                 have A100 := a0_ A1000
                 clear A1000
                 obtain rfl := Option.some.inj H
                 obtain ⟨Ao101, co101, eo101⟩ := Kd.R_slice HO_0.out
                 subst eo101
                 go_wp2_with (first | ((with_reducible refine gate_callee (f := 116) rfl ?_); refine goesL_ (some 219) rfl rfl Try.func116 z6_ rfl #[.slice Ao101 x0_78.length co101, .int .i64 (wrap64 ((IntKind.u64.wrap (wrap64 (a1 + a3))) / 2)), .int .i64 (wrap64 ((wrap64 ((wrap64 ((IntKind.u64.wrap (wrap64 (a1 + a3))) / 2)) + a2)) - x20_2)), .int .i64 a3, .func (.func 93) #[] #[]] rfl z16_ ?_; (with_reducible refine (ih kj83 z91_ (fun k_ => some k_ = (.slice Ao101 x0_78.length co101 : Value).ownBlock) (.slice Ao101 x0_78.length co101) x0_78 (wrap64 ((IntKind.u64.wrap (wrap64 (a1 + a3))) / 2)) (wrap64 ((wrap64 ((wrap64 ((IntKind.u64.wrap (wrap64 (a1 + a3))) / 2)) + a2)) - x20_2)) a3 93 t194 w0 _ ?side1 ?side2 A100.out).mono ?_); (case side1 => exact z3_); (case side2 => exact z81_); rintro e w102 ⟨rfl, hy0, hb, hkp⟩; refine ⟨_, rfl, ?_⟩; have n0_ := a0_ (Kd.R_reok rfl hy0 (fun k_ e_ => HO_0.out.1 k_ e_)); have n1_ := a0_ (Kept.then_ (S := (fun k_ => P0_ k_)) z77_ hkp (fun k_ hs_ => (fun e_ => (HO_0.out.1 k_ e_.symm)) hs_)); have n2_ := a0_ (hb); clear HO_0; clear HK; clear HB; have HO_0 := n0_; have HK := n1_; have HB := n2_; clear n0_ n1_ n2_; (try clear hb); (try clear hkp); (try clear hy0)))
                 first | go_end0 | ((try simp only [Exit.inBlock, Exit.then]); refine bodyPost_ret (results_none rfl _ _ _) rfl ?_)
                 exact qrx90_
                ·rw [if_neg c99] at H
                 have c99b0 : decide ((wrap64 ((wrap64 ((wrap64 ((IntKind.u64.wrap (wrap64 (a1 + a3))) / 2)) + a2)) - x20_2)) < a3) = false := decide_eq_false c99
                 clear c99
                 obtain rfl := Option.some.inj H
                 go_wp2
                 first | go_end0 | ((try simp only [Exit.inBlock, Exit.then]); refine bodyPost_ret (results_none rfl _ _ _) rfl ?_)
                 exact qrx90_
               ·rw [if_neg c98] at H
                have c98b0 : decide ((wrap64 ((IntKind.u64.wrap (wrap64 (a1 + a3))) / 2)) < (wrap64 ((wrap64 ((wrap64 ((IntKind.u64.wrap (wrap64 (a1 + a3))) / 2)) + a2)) - x20_2))) = false := decide_eq_false c98
                clear c98
                obtain rfl := Option.some.inj H
                go_wp2
                first | go_end0 | ((try simp only [Exit.inBlock, Exit.then]); refine bodyPost_ret (results_none rfl _ _ _) rfl ?_)
                exact qrx90_
end Go.Proofs.Ytecfndblgefhdaa.R
