import Derived.Test.YtecfndblgefhdaaKsRx0
set_option linter.unusedVariables false
set_option linter.unusedSimpArgs false
namespace Go.Proofs.Ytecfndblgefhdaa.R
open Go.RowKit Go.Proofs.YtecfndblgefhdaaW.PrintWords Go.Proofs.YtecfndblgefhdaaW.PrintLast Go.Proofs.YtecfndblgefhdaaW.PrintMore
attribute [local go_sem] max2_int min2_int max_two min_two max_three min_three max_four min_four
def firstAt {α : Type} (p : α → Bool) : List α → Int → Int
 | [], _ => -1
 | s :: r, i => if p s = true then i else firstAt p r (i + 1)
set_option maxHeartbeats 1000000 in
theorem queue_Done_1.calls (a0 a1 : Int) (A : Option Addr) (n c : Nat) (g : Nat) (seq : Int) (r : Bool) (w0 w : World) (hB : Below w0.heap.size w0 w) (hc : w.cell? ⟨g, 0, none⟩ = some (.int .i64 seq)) (hr : decide (a1 ≤ seq) = r) :
  Calls Try.prog 56 #[.agg #[.int .i64 a0, .int .i64 a1, .slice A n c], .pointer (some ⟨g, 0, none⟩)] w fun e w' => e = .returned (.bool r) ∧ Below w0.heap.size w0 w' := by
 have HB := a0_ (below_alloc hB (.cells #[.int .i64 a0, .int .i64 a1, .slice A n c] 51 (0, 0)))
 have hlt := World.block_lt_of_cell? w _ hc
 clear hB
 go_enter Try.func56, Try.ntmps56
 go_wp2
 go_ret
 exact ⟨by rw [← hr]; rfl, HB.out⟩
set_option maxHeartbeats 1000000 in
theorem idxSets.calls (A0 : Option Addr) (c0 : Nat) (l0 : List S51) (w0 w : World) (hr0 : Kd.C k51 w A0 l0.length l0) (hB : Below w0.heap.size w0 w) (g : Nat) (seq : Int) (hc : w.cell? ⟨g, 0, none⟩ = some (.int .i64 seq)) :
  Calls Try.prog 91 #[.slice A0 l0.length c0, .func (.func 56) #[] #[.pointer (some ⟨g, 0, none⟩)]] w fun e w' => e = .returned (.int .i64 (firstAt (fun s => decide (s.f1 ≤ seq)) l0 0)) ∧ Below w.heap.size w w' := by
 have HR0 := a0_ hr0
 have hmax : l0.length ≤ 9223372036854775807 := hr0.2.1
 have HC := a0_ hc
 clear hc
 clear hr0 hB
 have HB := a0_ (Below.refl w.heap.size w)
 generalize hr : firstAt (fun s => decide (s.f1 ≤ seq)) l0 0 = r
 have H : Aside0 (firstAt (fun s => decide (s.f1 ≤ seq)) (l0.drop 0) ((0 : Nat) : Int) = r) := ⟨hr⟩
 clear hr
 have eg : ∀ args w, (callFunc 56 args).run Try.prog w = .ok (.enter 56 args) w := enters_of Try.func56 z6_ rfl
 go_enter Try.func91, Try.ntmps91
 go_wp2
 go_loopw [5, 8] (fun v5 v8 w' => ∃ (i : Nat), i ≤ l0.length ∧ v8 = .int .i64 i ∧ Aside0 (firstAt (fun s => decide (s.f1 ≤ seq)) (l0.drop i) (i : Int) = r) ∧ Aside0 (Below w.heap.size w w')) (fun _ v8 _ => l0.length - (intOf v8).toNat)
 case atStart => exact ⟨0, Nat.zero_le _, rfl, H, HB⟩
 case round =>
  clear H HB
  obtain ⟨i, hi, rfl, H, HB2⟩ := hrel
  by_cases hlt : i < l0.length
  ·have h := H.out
   rw [List.drop_eq_getElem_cons hlt] at h
   simp only [firstAt] at h
   have hs : rd_T51 l0 (i : Int) = l0[i] := by
    unfold rd_T51
    rw [Int.toNat_natCast, List.getD_eq_getElem?_getD, List.getElem?_eq_getElem hlt]
    rfl
   obtain ⟨ad, Ai, ci, hA, z0, z1, z2, _⟩ := at_T51 HR0.out (i : Int) z7_ z7_
   subst hA
   rw [hs] at z0 z1 z2
   replace z0 := (HB2.out.cell (World.block_lt_of_cell? w _ z0)).trans z0
   replace z1 := (HB2.out.cell (World.block_lt_of_cell? w _ z1)).trans z1
   replace z2 := (HB2.out.cell (World.block_lt_of_cell? w _ z2)).trans z2
   rw [Int.toNat_natCast] at z0 z1 z2
   have hi0 : 0 ≤ (i : Int) := by omega
   have hi1 : (i : Int) < (l0.length : Int) := by omega
   have HS := a0_ hs
   clear hs H
   generalize l0[i] = s at *
   cases hp : decide (s.f1 ≤ seq) with
   | true =>
    rw [if_pos hp] at h
    subst h
    have hcall := fun (A : Option Addr) (n c : Nat) => queue_Done_1.calls s.f0 s.f1 A n c g seq _ w _ HB2.out ((HB2.out.cell (World.block_lt_of_cell? w _ HC.out)).trans HC.out) hp
    clear hp
    go_wp2_with (go_at_fn 56; refine (hcall _ _ _).mono ?_; rintro e w2 ⟨rfl, hb⟩; have HB3 := a0_ hb; clear hb)
    go_ret
    exact ⟨rfl, HB3.out⟩
   | false =>
    rw [if_neg (by rw [hp]; decide)] at h
    have H := a0_ h
    have hcall := fun (A : Option Addr) (n c : Nat) => queue_Done_1.calls s.f0 s.f1 A n c g seq _ w _ HB2.out ((HB2.out.cell (World.block_lt_of_cell? w _ HC.out)).trans HC.out) hp
    clear h hp
    go_wp2_with (go_at_fn 56; refine (hcall _ _ _).mono ?_; rintro e w2 ⟨rfl, hb⟩; have HB3 := a0_ hb; clear hb)
    go_roundw
    case measure => simp [intOf]; omega
    case rel => exact ⟨i + 1, z7_, z9_, H, HB3⟩
  ·obtain rfl : i = l0.length := by omega
   have h := H.out
   rw [List.drop_length] at h
   simp only [firstAt] at h
   subst h
   clear H
   go_wp2
   go_ret
   exact ⟨rfl, HB2.out⟩
end Go.Proofs.Ytecfndblgefhdaa.R
