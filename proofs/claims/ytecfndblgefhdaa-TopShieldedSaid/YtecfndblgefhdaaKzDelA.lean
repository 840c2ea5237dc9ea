import Derived.Test.YtecfndblgefhdaaKzRx0
set_option linter.unusedVariables false
set_option linter.unusedSimpArgs false
namespace Go.Proofs.Ytecfndblgefhdaa.R
open Go.RowKit Go.Proofs.YtecfndblgefhdaaW.PrintWords Go.Proofs.YtecfndblgefhdaaW.PrintLast Go.Proofs.YtecfndblgefhdaaW.PrintMore
attribute [local go_sem] max2_int min2_int max_two min_two max_three min_three max_four min_four
def firstAt {α : Type} (p : α → Bool) : List α → Int → Int
 | [], _ => -1
 | s :: r, i => if p s = true then i else firstAt p r (i + 1)
def named (l : List S120) (m0 m1 : Int) : Bool := l.any fun s => decide (s.f0 = m0 ∧ s.f1 = m1)
set_option maxHeartbeats 1000000 in
theorem snap_has_1.calls (a0 a1 : Int) (s : ByteArray) (g : Nat) (m0 m1 : Int) (r : Bool) (w0 w : World) (hB : Below w0.heap.size w0 w) (hc0 : w.cell? ⟨g, 0, none⟩ = some (.int .i64 m0)) (hc1 : w.cell? ⟨g, 1, none⟩ = some (.int .i64 m1)) (hr : decide (a0 = m0 ∧ a1 = m1) = r) :
  Calls Try.prog 96 #[.agg #[.int .i64 a0, .int .i64 a1, .string s], .pointer (some ⟨g, 0, none⟩)] w fun e w' => e = .returned (.bool r) ∧ Below w0.heap.size w0 w' := by
 have HB := a0_ (below_alloc hB (.cells #[.int .i64 a0, .int .i64 a1, .string s] 120 (0, 0)))
 have hlt := World.block_lt_of_cell? w _ hc0
 have HR := a0_ hr
 clear hB hr
 by_cases c1 : a0 = m0
 ·subst c1
  go_enter Try.func96, Try.ntmps96
  go_wp2
  go_ret
  exact ⟨by rw [← HR.out]; simp; rfl, HB.out⟩
 ·go_enter Try.func96, Try.ntmps96
  go_wp2
  go_ret
  exact ⟨by rw [← HR.out]; simp [c1], HB.out⟩
set_option maxHeartbeats 1000000 in
theorem idxWrites.calls (A0 : Option Addr) (c0 : Nat) (l0 : List S120) (w0 w : World) (hr0 : Kd.C k120 w A0 l0.length l0) (hB : Below w0.heap.size w0 w) (g : Nat) (m0 m1 : Int) (hc0 : w.cell? ⟨g, 0, none⟩ = some (.int .i64 m0)) (hc1 : w.cell? ⟨g, 1, none⟩ = some (.int .i64 m1)) :
  Calls Try.prog 111 #[.slice A0 l0.length c0, .func (.func 96) #[] #[.pointer (some ⟨g, 0, none⟩)]] w fun e w' => e = .returned (.int .i64 (firstAt (fun s => decide (s.f0 = m0 ∧ s.f1 = m1)) l0 0)) ∧ Below w.heap.size w w' := by
 have HR0 := a0_ hr0
 have hmax : l0.length ≤ 9223372036854775807 := hr0.2.1
 have HC := a0_ hc0
 have HC1 := a0_ hc1
 clear hc0 hc1
 clear hr0 hB
 have HB := a0_ (Below.refl w.heap.size w)
 generalize hr : firstAt (fun s => decide (s.f0 = m0 ∧ s.f1 = m1)) l0 0 = r
 have H : Aside0 (firstAt (fun s => decide (s.f0 = m0 ∧ s.f1 = m1)) (l0.drop 0) ((0 : Nat) : Int) = r) := ⟨hr⟩
 clear hr
 have eg : ∀ args w, (callFunc 96 args).run Try.prog w = .ok (.enter 96 args) w := enters_of Try.func96 z6_ rfl
 go_enter Try.func111, Try.ntmps111
 go_wp2
 go_loopw [5, 8] (fun v5 v8 w' => ∃ (i : Nat), i ≤ l0.length ∧ v8 = .int .i64 i ∧ Aside0 (firstAt (fun s => decide (s.f0 = m0 ∧ s.f1 = m1)) (l0.drop i) (i : Int) = r) ∧ Aside0 (Below w.heap.size w w')) (fun _ v8 _ => l0.length - (intOf v8).toNat)
 case atStart => exact ⟨0, Nat.zero_le _, rfl, H, HB⟩
 case round =>
  clear H HB
  obtain ⟨i, hi, rfl, H, HB2⟩ := hrel
  by_cases hlt : i < l0.length
  ·have h := H.out
   rw [List.drop_eq_getElem_cons hlt] at h
   simp only [firstAt] at h
   have hs : rd_T120 l0 (i : Int) = l0[i] := by
    unfold rd_T120
    rw [Int.toNat_natCast, List.getD_eq_getElem?_getD, List.getElem?_eq_getElem hlt]
    rfl
   obtain ⟨ad, hA, z0, z1, z2⟩ := at_T120 HR0.out (i : Int) z7_ z7_
   subst hA
   rw [hs] at z0 z1 z2
   replace z0 := (HB2.out.cell (World.block_lt_of_cell? w _ z0)).trans z0
   replace z1 := (HB2.out.cell (World.block_lt_of_cell? w _ z1)).trans z1
   replace z2 := (HB2.out.cell (World.block_lt_of_cell? w _ z2)).trans z2
   rw [Int.toNat_natCast] at z0 z1 z2
   have hi0 : 0 ≤ (i : Int) := by omega
   have hi1 : (i : Int) < (l0.length : Int) := by omega
   have HS := a0_ hs
   clear hs H
   generalize l0[i] = s at *
   cases hp : decide (s.f0 = m0 ∧ s.f1 = m1) with
   | true =>
    rw [if_pos hp] at h
    subst h
    have hcall := snap_has_1.calls s.f0 s.f1 s.f2 g m0 m1 _ w _ HB2.out ((HB2.out.cell (World.block_lt_of_cell? w _ HC.out)).trans HC.out) ((HB2.out.cell (World.block_lt_of_cell? w _ HC1.out)).trans HC1.out) hp
    clear hp
    go_wp2_with (go_at_fn 96; refine (hcall).mono ?_; rintro e w2 ⟨rfl, hb⟩; have HB3 := a0_ hb; clear hb)
    go_ret
    exact ⟨rfl, HB3.out⟩
   | false =>
    rw [if_neg (by rw [hp]; decide)] at h
    have H := a0_ h
    have hcall := snap_has_1.calls s.f0 s.f1 s.f2 g m0 m1 _ w _ HB2.out ((HB2.out.cell (World.block_lt_of_cell? w _ HC.out)).trans HC.out) ((HB2.out.cell (World.block_lt_of_cell? w _ HC1.out)).trans HC1.out) hp
    clear h hp
    go_wp2_with (go_at_fn 96; refine (hcall).mono ?_; rintro e w2 ⟨rfl, hb⟩; have HB3 := a0_ hb; clear hb)
    go_roundw
    case measure => simp [intOf]; omega
    case rel => exact ⟨i + 1, z7_, z9_, H, HB3⟩
  ·obtain rfl : i = l0.length := by omega
   have h := H.out
   rw [List.drop_length] at h
   simp only [firstAt] at h
   subst h
   clear H
   go_wp2
   go_ret
   exact ⟨rfl, HB2.out⟩
theorem firstAt_nonneg {α : Type} (p : α → Bool) : ∀ (l : List α) (i : Int), 0 ≤ i → decide (0 ≤ firstAt p l i) = l.any p
 | [], i, h => rfl
 | s :: r, i, h => by
  rw [firstAt, List.any_cons]
  cases hp : p s with
  | true => rw [if_pos rfl, Bool.true_or]; exact decide_eq_true h
  | false => rw [if_neg z8_, Bool.false_or]; exact firstAt_nonneg p r (i + 1) z7_
set_option maxHeartbeats 1000000 in
theorem anyWrites.calls (A0 : Option Addr) (c0 : Nat) (l0 : List S120) (w : World) (hr0 : Kd.C k120 w A0 l0.length l0) (g : Nat) (m0 m1 : Int) (hc0 : w.cell? ⟨g, 0, none⟩ = some (.int .i64 m0)) (hc1 : w.cell? ⟨g, 1, none⟩ = some (.int .i64 m1)) :
  Calls Try.prog 95 #[.slice A0 l0.length c0, .func (.func 96) #[] #[.pointer (some ⟨g, 0, none⟩)]] w fun e w' => e = .returned (.bool (named l0 m0 m1)) ∧ Below w.heap.size w w' := by
 unfold named
 rw [← firstAt_nonneg _ l0 0 z7_]
 have hcall := idxWrites.calls A0 c0 l0 w w hr0 (Below.refl _ _) g m0 m1 hc0 hc1
 generalize firstAt (fun s => decide (s.f0 = m0 ∧ s.f1 = m1)) l0 0 = t at *
 clear hr0 hc0 hc1
 by_cases h : 0 ≤ t
 ·have h1 : decide (0 ≤ t) = true := decide_eq_true h
  rw [h1]
  go_enter Try.func95, Try.ntmps95
  go_wp2_with (go_at_call 111; refine hcall.mono ?_; rintro e w2 ⟨rfl, hb⟩)
  go_ret
  exact ⟨rfl, hb⟩
 ·have h1 : decide (0 ≤ t) = false := decide_eq_false h
  rw [h1]
  go_enter Try.func95, Try.ntmps95
  go_wp2_with (go_at_call 111; refine hcall.mono ?_; rintro e w2 ⟨rfl, hb⟩)
  go_ret
  exact ⟨rfl, hb⟩
set_option maxHeartbeats 1000000 in
theorem snap_has.calls (A0 : Option Addr) (c0 : Nat) (l0 : List S120) (m0 m1 : Int) (w0 w : World) (hr0 : Kd.C k120 w A0 l0.length l0) (hB : Below w0.heap.size w0 w) :
  Calls Try.prog 65 #[.slice A0 l0.length c0, .agg #[.int .i64 m0, .int .i64 m1]] w fun e w' => e = .returned (.bool (named l0 m0 m1)) ∧ Below w0.heap.size w0 w' := by
 have HB := a0_ (below_alloc hB (.cells #[.int .i64 m0, .int .i64 m1] 141 (0, 0)))
 have HC := a0_ (anyWrites.calls A0 c0 l0 (w.alloc (.cells #[.int .i64 m0, .int .i64 m1] 141 (0, 0))) (Kd.C_below hr0 (below_alloc (Below.refl _ _) _)) w.heap.size m0 m1 ((blk_cell (blk_new w _) 0).trans rfl) ((blk_cell (blk_new w _) 1).trans rfl))
 clear hr0 hB
 generalize named l0 m0 m1 = b at *
 have eg : ∀ args w, (callFunc 95 args).run Try.prog w = .ok (.enter 95 args) w := enters_of Try.func95 z6_ rfl
 go_enter Try.func65, Try.ntmps65
 go_wp2_with (go_at_fn 95; refine HC.out.mono ?_; rintro e w2 ⟨rfl, hb⟩; have HB2 := a0_ (below_step HB.out hb); clear hb)
 go_ret
 exact ⟨rfl, HB2.out⟩
set_option maxHeartbeats 1000000 in
theorem snap_Note_1.calls (A0 : Option Addr) (c0 : Nat) (l0 : List S120) (m0 m1 : Int) (g : Nat) (r : Bool) (w0 w : World) (hr0 : Kd.C k120 w A0 l0.length l0) (hc : w.cell? ⟨g, 0, none⟩ = some (.slice A0 l0.length c0)) (hB : Below w0.heap.size w0 w) (hr : (named l0 m0 m1) = r) :
  Calls Try.prog 64 #[.agg #[.int .i64 m0, .int .i64 m1], .pointer (some ⟨g, 0, none⟩)] w fun e w' => e = .returned (.bool r) ∧ Below w0.heap.size w0 w' := by
 have hlt := World.block_lt_of_cell? w _ hc
 have HC := a0_ (snap_has.calls A0 c0 l0 m0 m1 w0 (w.alloc (.cells #[.int .i64 m0, .int .i64 m1] 141 (0, 0))) (Kd.C_below hr0 (below_alloc (Below.refl _ _) _)) (below_alloc hB _))
 clear hr0 hB
 rw [hr] at HC
 clear hr
 have eg : ∀ args w, (callFunc 65 args).run Try.prog w = .ok (.enter 65 args) w := enters_of Try.func65 z6_ rfl
 go_enter Try.func64, Try.ntmps64
 go_wp2_with (go_at_fn 65; refine HC.out.mono ?_; rintro e w2 ⟨rfl, hb⟩; have HB2 := a0_ hb; clear hb)
 go_ret
 exact ⟨rfl, HB2.out⟩
set_option maxHeartbeats 1000000 in
theorem idxMarks.calls (A0 : Option Addr) (c0 : Nat) (l0 : List S141) (w0 w : World) (hr0 : Kd.C k141 w A0 l0.length l0) (hB : Below w0.heap.size w0 w) (g : Nat) (A1 : Option Addr) (c1 : Nat) (l1 : List S120) (hr1 : Kd.C k120 w A1 l1.length l1) (hc : w.cell? ⟨g, 0, none⟩ = some (.slice A1 l1.length c1)) :
  Calls Try.prog 94 #[.slice A0 l0.length c0, .func (.func 64) #[] #[.pointer (some ⟨g, 0, none⟩)]] w fun e w' => e = .returned (.int .i64 (firstAt (fun s => named l1 s.f0 s.f1) l0 0)) ∧ Below w.heap.size w w' := by
 have HR0 := a0_ hr0
 have hmax : l0.length ≤ 9223372036854775807 := hr0.2.1
 have HR1 := a0_ hr1
 have HC := a0_ hc
 clear hc hr1
 clear hr0 hB
 have HB := a0_ (Below.refl w.heap.size w)
 generalize hr : firstAt (fun s => named l1 s.f0 s.f1) l0 0 = r
 have H : Aside0 (firstAt (fun s => named l1 s.f0 s.f1) (l0.drop 0) ((0 : Nat) : Int) = r) := ⟨hr⟩
 clear hr
 have eg : ∀ args w, (callFunc 64 args).run Try.prog w = .ok (.enter 64 args) w := enters_of Try.func64 z6_ rfl
 go_enter Try.func94, Try.ntmps94
 go_wp2
 go_loopw [5, 8] (fun v5 v8 w' => ∃ (i : Nat), i ≤ l0.length ∧ v8 = .int .i64 i ∧ Aside0 (firstAt (fun s => named l1 s.f0 s.f1) (l0.drop i) (i : Int) = r) ∧ Aside0 (Below w.heap.size w w')) (fun _ v8 _ => l0.length - (intOf v8).toNat)
 case atStart => exact ⟨0, Nat.zero_le _, rfl, H, HB⟩
 case round =>
  clear H HB
  obtain ⟨i, hi, rfl, H, HB2⟩ := hrel
  by_cases hlt : i < l0.length
  ·have h := H.out
   rw [List.drop_eq_getElem_cons hlt] at h
   simp only [firstAt] at h
   have hs : rd_T141 l0 (i : Int) = l0[i] := by
    unfold rd_T141
    rw [Int.toNat_natCast, List.getD_eq_getElem?_getD, List.getElem?_eq_getElem hlt]
    rfl
   obtain ⟨ad, hA, z0, z1⟩ := at_T141 HR0.out (i : Int) z7_ z7_
   subst hA
   rw [hs] at z0 z1
   replace z0 := (HB2.out.cell (World.block_lt_of_cell? w _ z0)).trans z0
   replace z1 := (HB2.out.cell (World.block_lt_of_cell? w _ z1)).trans z1
   rw [Int.toNat_natCast] at z0 z1
   have hi0 : 0 ≤ (i : Int) := by omega
   have hi1 : (i : Int) < (l0.length : Int) := by omega
   have HS := a0_ hs
   clear hs H
   generalize l0[i] = s at *
   cases hp : named l1 s.f0 s.f1 with
   | true =>
    rw [if_pos hp] at h
    subst h
    have hcall := snap_Note_1.calls A1 c1 l1 s.f0 s.f1 g _ w _ (Kd.C_below HR1.out HB2.out) ((HB2.out.cell (World.block_lt_of_cell? w _ HC.out)).trans HC.out) HB2.out hp
    clear hp
    go_wp2_with (go_at_fn 64; refine (hcall).mono ?_; rintro e w2 ⟨rfl, hb⟩; have HB3 := a0_ hb; clear hb)
    go_ret
    exact ⟨rfl, HB3.out⟩
   | false =>
    rw [if_neg (by rw [hp]; decide)] at h
    have H := a0_ h
    have hcall := snap_Note_1.calls A1 c1 l1 s.f0 s.f1 g _ w _ (Kd.C_below HR1.out HB2.out) ((HB2.out.cell (World.block_lt_of_cell? w _ HC.out)).trans HC.out) HB2.out hp
    clear h hp
    go_wp2_with (go_at_fn 64; refine (hcall).mono ?_; rintro e w2 ⟨rfl, hb⟩; have HB3 := a0_ hb; clear hb)
    go_roundw
    case measure => simp [intOf]; omega
    case rel => exact ⟨i + 1, z7_, z9_, H, HB3⟩
  ·obtain rfl : i = l0.length := by omega
   have h := H.out
   rw [List.drop_length] at h
   simp only [firstAt] at h
   subst h
   clear H
   go_wp2
   go_ret
   exact ⟨rfl, HB2.out⟩
end Go.Proofs.Ytecfndblgefhdaa.R
