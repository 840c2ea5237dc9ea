import Derived.Test.YtecfndblgefhdaaKcPx2
namespace Go.Proofs.Ytecfndblgefhdaa.P
open Go.RowKit Go.Proofs.YtecfndblgefhdaaW.PrintWords Go.Proofs.YtecfndblgefhdaaW.PrintLast Go.Proofs.YtecfndblgefhdaaW.PrintMore
attribute [local go_sem] max2_int min2_int max_two min_two max_three min_three max_four min_four
set_option linter.unusedVariables false
set_option linter.unusedSimpArgs false
theorem qpx30_ {p : Prop} (h : p := by exact ⟨z3_, z6_⟩) : p := h
def api_Write_111.idx (g : S120 → Option Bool) : List S120 → Int → Option Int
 | [], _ => some (-1)
 | s :: r, i => (g s).bind fun b => if b = true then some i else api_Write_111.idx g r (i + 1)
def api_Write_111.f (l0 : List S120) (a1 : Nat) : Option Int := if a1 = 100 then api_Write_111.idx (fun s => msg_writable_1.f s.f0 s.f1 s.f2) l0 0 else none
set_option maxHeartbeats 1000000 in
theorem api_Write_111.calls_msg_writable_1 (A0 : Option Addr) (c0 : Nat) (l0 : List S120) (r : Int) (w : World) (hr0 : Kd.C k120 w A0 l0.length l0) (hc0 : l0.length ≤ c0) (h : api_Write_111.idx (fun s => msg_writable_1.f s.f0 s.f1 s.f2) l0 0 = some r) :
  Calls Try.prog 111 #[.slice A0 l0.length c0, .func (.func 100) #[] #[]] w fun e w' => e = .returned (.int .i64 r) ∧ Below w.heap.size w w' := by
 have HR0 := a0_ hr0
 have hmax : l0.length ≤ 9223372036854775807 := hr0.2.1
 clear hr0 hc0
 have HB := a0_ (Below.refl w.heap.size w)
 have H : Aside0 (api_Write_111.idx (fun s => msg_writable_1.f s.f0 s.f1 s.f2) (l0.drop 0) ((0 : Nat) : Int) = some r) := ⟨h⟩
 clear h
 have eg : ∀ args w, (callFunc 100 args).run Try.prog w = .ok (.enter 100 args) w := enters_of Try.func100 z11_ rfl
 go_enter Try.func111, Try.ntmps111
 go_wp2
 go_loopw [5, 8] (fun v5 v8 w' => ∃ (i : Nat), i ≤ l0.length ∧ v8 = .int .i64 i ∧ Aside0 (api_Write_111.idx (fun s => msg_writable_1.f s.f0 s.f1 s.f2) (l0.drop i) (i : Int) = some r) ∧ Aside0 (Below w.heap.size w w')) (fun _ v8 _ => l0.length - (intOf v8).toNat)
 case atStart => exact ⟨0, Nat.zero_le _, rfl, H, HB⟩
 case round =>
  clear H HB
  obtain ⟨i, hi, rfl, H, HB2⟩ := hrel
  by_cases hlt : i < l0.length
  ·have h := H.out
   rw [List.drop_eq_getElem_cons hlt] at h
   simp only [api_Write_111.idx] at h
   obtain ⟨ad, hA, z0, z1, z2⟩ := at_T120 HR0.out (i : Int) z2_ z2_
   subst hA
   have hs : rd_T120 l0 (i : Int) = l0[i] := by
    unfold rd_T120
    rw [Int.toNat_natCast, List.getD_eq_getElem?_getD, List.getElem?_eq_getElem hlt]
    rfl
   rw [hs] at z0 z1 z2
   replace z0 := (HB2.out.cell (World.block_lt_of_cell? w _ z0)).trans z0
   replace z1 := (HB2.out.cell (World.block_lt_of_cell? w _ z1)).trans z1
   replace z2 := (HB2.out.cell (World.block_lt_of_cell? w _ z2)).trans z2
   rw [Int.toNat_natCast] at z0 z1 z2
   have hi0 : 0 ≤ (i : Int) := by omega
   have hi1 : (i : Int) < (l0.length : Int) := by omega
   have HS := a0_ hs
   clear hs H
   generalize l0[i] = s at *
   obtain ⟨b, hb, h⟩ := Option.bind_eq_some_iff.1 h
   have hcall : ∀ W : World, Calls Try.prog 100 #[.agg #[.int .i64 s.f0, .int .i64 s.f1, .string s.f2]] W fun e w' => e = .returned (.bool b) ∧ Below W.heap.size W w' := fun W => (msg_writable_1.calls s.f0 s.f1 s.f2 b W hb).mono fun e w' ⟨he, hd⟩ => ⟨he, z29_⟩
   clear hb
   cases b with
   | true =>
    rw [if_pos rfl] at h
    obtain rfl := Option.some.inj h
    go_wp2_with (go_at_fn 100; refine (hcall _).mono ?_; rintro e w2 ⟨rfl, hb⟩; have HB3 := a0_ (below_step HB2.out hb); clear hb)
    go_ret
    exact ⟨rfl, HB3.out⟩
   | false =>
    rw [if_neg z17_] at h
    have H := a0_ h
    clear h
    go_wp2_with (go_at_fn 100; refine (hcall _).mono ?_; rintro e w2 ⟨rfl, hb⟩; have HB3 := a0_ (below_step HB2.out hb); clear hb)
    go_roundw
    case measure => simp [intOf]; omega
    case rel => exact ⟨i + 1, z2_, z30_, H, HB3⟩
  ·obtain rfl : i = l0.length := by omega
   have h := H.out
   rw [List.drop_length] at h
   simp only [api_Write_111.idx] at h
   obtain rfl := Option.some.inj h
   clear H h
   go_wp2
   go_ret
   exact ⟨rfl, HB2.out⟩
theorem api_Write_111.calls (A0 : Option Addr) (c0 : Nat) (l0 : List S120) (a1 : Nat) (r : Int) (w : World) (hr0 : Kd.C k120 w A0 l0.length l0) (hc0 : l0.length ≤ c0) (h : api_Write_111.f l0 a1 = some r) :
  Calls Try.prog 111 #[.slice A0 l0.length c0, .func (.func a1) #[] #[]] w fun e w' => e = .returned (.int .i64 r) ∧ Below w.heap.size w w' := by
 unfold api_Write_111.f at h
 by_cases e0 : a1 = 100
 ·subst e0
  rw [if_pos rfl] at h
  exact api_Write_111.calls_msg_writable_1 A0 c0 l0 r w hr0 hc0 h
 rw [if_neg e0] at h
 cases h
def api_Write_95.f (l0 : List S120) (a1 : Nat) : Option Bool := (api_Write_111.f l0 a1).bind fun t => some (decide (0 ≤ t))
theorem api_Write_95.calls (A0 : Option Addr) (c0 : Nat) (l0 : List S120) (a1 : Nat) (r : Bool) (w : World) (hr0 : Kd.C k120 w A0 l0.length l0) (hc0 : l0.length ≤ c0) (h : api_Write_95.f l0 a1 = some r) :
  Calls Try.prog 95 #[.slice A0 l0.length c0, .func (.func a1) #[] #[]] w fun e w' => e = .returned (.bool r) ∧ Below w.heap.size w w' := by
 unfold api_Write_95.f at h
 obtain ⟨t, ht, h⟩ := Option.bind_eq_some_iff.1 h
 obtain rfl := Option.some.inj h
 clear h
 have HB := a0_ (Below.refl w.heap.size w)
 have hcall := api_Write_111.calls A0 c0 l0 a1 t w hr0 hc0 ht
 clear hr0 hc0 ht
 by_cases h : 0 ≤ t
 ·have h1 : decide (0 ≤ t) = true := decide_eq_true h
  rw [h1]
  go_enter Try.func95, Try.ntmps95
  go_wp2_with (go_at_call 111; refine hcall.mono ?_; rintro e w2 ⟨rfl, hb⟩)
  go_ret
  exact ⟨rfl, hb⟩
 ·have h1 : decide (0 ≤ t) = false := decide_eq_false h
  rw [h1]
  go_enter Try.func95, Try.ntmps95
  go_wp2_with (go_at_call 111; refine hcall.mono ?_; rintro e w2 ⟨rfl, hb⟩)
  go_ret
  exact ⟨rfl, hb⟩
def msg_writable.f (k : Nat) (l0 : List (S120)) : Option (Bool) := if (l0.length : Int) ≤ 128 then ((fold_Folded.f k l0).bind fun t123 => (if t123 = true then ((api_Write_95.f l0 100).bind fun t124 => (some (!t124))) else (some false))) else (some false)
set_option maxHeartbeats 8000000 in
set_option maxRecDepth 100000 in
theorem msg_writable.calls (k : Nat) (A0 : Option Addr) (c0 : Nat) (l0 : List (S120)) (r : Bool) (w : World) (hr0 : Kd.C k120 w A0 l0.length l0) (hc0 : l0.length ≤ c0) (h : msg_writable.f k l0 = some r) :
  Calls Try.prog 76 #[.slice A0 l0.length c0] w fun e w' => e = .returned (.bool r) ∧ Below w.heap.size w w' := by
 have HR0 := a0_ hr0
 have HC0 := a0_ hc0
 clear hr0 hc0
 have HB := a0_ (Below.refl w.heap.size w)
 have H : (if (l0.length : Int) ≤ 128 then ((fold_Folded.f k l0).bind fun t123 => (if t123 = true then ((api_Write_95.f l0 100).bind fun t124 => (some (!t124))) else (some false))) else (some false)) = some r := h
 clear h
 by_cases c2 : (l0.length : Int) ≤ 128
 ·rw [if_pos c2] at H
  have c2b0 : decide ((l0.length : Int) ≤ 128) = true := decide_eq_true c2
  have c2b1 : decide (l0.length ≤ 128) = true := decide_eq_true z2_
  clear c2
  replace H := Option.bind_eq_some_iff.mp H
  obtain ⟨t123, A30, H⟩ := H
  try dsimp only at H
  have A3 := a0_ A30
  clear A30
  by_cases c4 : t123 = true
  ·subst c4
   rw [if_pos rfl] at H
   replace H := Option.bind_eq_some_iff.mp H
   obtain ⟨t124, A50, H⟩ := H
   try dsimp only at H
   have A5 := a0_ A50
   clear A50
   obtain rfl := Option.some.inj H
   go_enter Try.func76, Try.ntmps76
   go_wp2_with (first | (go_at_call 87; (with_reducible refine (fold_Folded.calls k _ _ l0 true _ ?side1 ?side2 A3.out).mono ?_); (case side1 => exact z31_); (case side2 => exact z32_); rintro e w6 ⟨rfl, hb⟩; replace HB := a0_ (below_step z6_ hb); (try clear hb); (try clear hb2); (try clear hk); (try clear hi)) | (go_at_call 95; (with_reducible refine (api_Write_95.calls _ _ l0 100 t124 _ ?side1 ?side2 A5.out).mono ?_); (case side1 => exact z33_); (case side2 => exact z32_); rintro e w7 ⟨rfl, hb⟩; replace HB := a0_ (below_step z6_ hb); (try clear hb); (try clear hb2); (try clear hk); (try clear hi)))
   go_ret
   exact qpx30_
  ·replace c4 := Bool.eq_false_iff.mpr c4
   subst c4
   rw [if_neg (show ¬ (false = true) from z17_)] at H
   obtain rfl := Option.some.inj H
   go_enter Try.func76, Try.ntmps76
   go_wp2_with (first | (go_at_call 87; (with_reducible refine (fold_Folded.calls k _ _ l0 false _ ?side1 ?side2 A3.out).mono ?_); (case side1 => exact z31_); (case side2 => exact z32_); rintro e w8 ⟨rfl, hb⟩; replace HB := a0_ (below_step z6_ hb); (try clear hb); (try clear hb2); (try clear hk); (try clear hi)))
   go_ret
   exact qpx30_
 ·rw [if_neg c2] at H
  have c2b0 : decide ((l0.length : Int) ≤ 128) = false := decide_eq_false c2
  have c2b1 : decide (l0.length ≤ 128) = false := decide_eq_false z2_
  clear c2
  obtain rfl := Option.some.inj H
  go_enter Try.func76, Try.ntmps76
  go_wp2
  go_ret
  exact qpx30_
def vols_size.f (a0 : Int) : Option (Bool) := if a0 ≥ 1 then (some (decide (a0 ≤ 32))) else (some false)
set_option maxHeartbeats 8000000 in
set_option maxRecDepth 100000 in
theorem vols_size.calls (a0 : Int) (r : Bool) (w : World) (h : vols_size.f a0 = some r) :
  Calls Try.prog 82 #[.int .i64 a0] w fun e w' => e = .returned (.bool r) ∧ Drawn0 w w' := by
 have H : (if a0 ≥ 1 then (some (decide (a0 ≤ 32))) else (some false)) = some r := h
 clear h
 by_cases c2 : a0 ≥ 1
 ·rw [if_pos c2] at H
  have c2b0 : decide (1 ≤ a0) = true := decide_eq_true c2
  clear c2
  obtain rfl := Option.some.inj H
  go_enter Try.func82, Try.ntmps82
  go_wp2
  go_ret
  exact ⟨z9_, z10_⟩
 ·rw [if_neg c2] at H
  have c2b0 : decide (1 ≤ a0) = false := decide_eq_false c2
  clear c2
  obtain rfl := Option.some.inj H
  go_enter Try.func82, Try.ntmps82
  go_wp2
  go_ret
  exact ⟨z9_, z10_⟩
def slices_IndexFunc_string_string.idx (g : ByteArray → Option Bool) : List ByteArray → Int → Option Int
 | [], _ => some (-1)
 | s :: r, i => (g s).bind fun b => if b = true then some i else slices_IndexFunc_string_string.idx g r (i + 1)
def slices_IndexFunc_string_string.f (l0 : List ByteArray) (a1 : Nat) : Option Int := if a1 = 97 then slices_IndexFunc_string_string.idx (fun s => link_Right_1.f s) l0 0 else if a1 = 84 then slices_IndexFunc_string_string.idx (fun s => vols_Right_1.f s) l0 0 else none
set_option maxHeartbeats 1000000 in
theorem slices_IndexFunc_string_string.calls_link_Right_1 (A0 : Option Addr) (c0 : Nat) (l0 : List ByteArray) (r : Int) (w : World) (hr0 : Kd.C Kd.string w A0 l0.length l0) (hc0 : l0.length ≤ c0) (h : slices_IndexFunc_string_string.idx (fun s => link_Right_1.f s) l0 0 = some r) :
  Calls Try.prog 102 #[.slice A0 l0.length c0, .func (.func 97) #[] #[]] w fun e w' => e = .returned (.int .i64 r) ∧ Below w.heap.size w w' := by
 have HR0 := a0_ hr0
 have hmax : l0.length ≤ 9223372036854775807 := hr0.2.1
 clear hr0 hc0
 have HB := a0_ (Below.refl w.heap.size w)
 have H : Aside0 (slices_IndexFunc_string_string.idx (fun s => link_Right_1.f s) (l0.drop 0) ((0 : Nat) : Int) = some r) := ⟨h⟩
 clear h
 have eg : ∀ args w, (callFunc 97 args).run Try.prog w = .ok (.enter 97 args) w := enters_of Try.func97 z11_ rfl
 go_enter Try.func102, Try.ntmps102
 go_wp2
 go_loopw [5, 8] (fun v5 v8 w' => ∃ (i : Nat), i ≤ l0.length ∧ v8 = .int .i64 i ∧ Aside0 (slices_IndexFunc_string_string.idx (fun s => link_Right_1.f s) (l0.drop i) (i : Int) = some r) ∧ Aside0 (Below w.heap.size w w')) (fun _ v8 _ => l0.length - (intOf v8).toNat)
 case atStart => exact ⟨0, Nat.zero_le _, rfl, H, HB⟩
 case round =>
  clear H HB
  obtain ⟨i, hi, rfl, H, HB2⟩ := hrel
  by_cases hlt : i < l0.length
  ·have h := H.out
   rw [List.drop_eq_getElem_cons hlt] at h
   simp only [slices_IndexFunc_string_string.idx] at h
   have hat := Kd.at_string HR0.out (i : Int) z2_ z2_
   obtain ⟨ad, ead, hcell⟩ := hat
   cases ead
   have hs : rdOf ByteArray.empty l0 (i : Int) = l0[i] := by
    unfold rdOf
    rw [Int.toNat_natCast, List.getD_eq_getElem?_getD, List.getElem?_eq_getElem hlt]
    rfl
   rw [hs] at hcell
   replace hcell := (HB2.out.cell (World.block_lt_of_cell? w _ hcell)).trans hcell
   rw [Int.toNat_natCast] at hcell
   have hi0 : 0 ≤ (i : Int) := by omega
   have hi1 : (i : Int) < (l0.length : Int) := by omega
   have HS := a0_ hs
   clear hs H
   generalize l0[i] = s at *
   obtain ⟨b, hb, h⟩ := Option.bind_eq_some_iff.1 h
   have hcall : ∀ W : World, Calls Try.prog 97 #[.string s] W fun e w' => e = .returned (.bool b) ∧ Below W.heap.size W w' := fun W => (link_Right_1.calls s b W hb).mono fun e w' ⟨he, hd⟩ => ⟨he, z29_⟩
   clear hb
   cases b with
   | true =>
    rw [if_pos rfl] at h
    obtain rfl := Option.some.inj h
    go_wp2_with (go_at_fn 97; refine (hcall _).mono ?_; rintro e w2 ⟨rfl, hb⟩; have HB3 := a0_ (below_step HB2.out hb); clear hb)
    go_ret
    exact ⟨rfl, HB3.out⟩
   | false =>
    rw [if_neg z17_] at h
    have H := a0_ h
    clear h
    go_wp2_with (go_at_fn 97; refine (hcall _).mono ?_; rintro e w2 ⟨rfl, hb⟩; have HB3 := a0_ (below_step HB2.out hb); clear hb)
    go_roundw
    case measure => simp [intOf]; omega
    case rel => exact ⟨i + 1, z2_, z30_, H, HB3⟩
  ·obtain rfl : i = l0.length := by omega
   have h := H.out
   rw [List.drop_length] at h
   simp only [slices_IndexFunc_string_string.idx] at h
   obtain rfl := Option.some.inj h
   clear H h
   go_wp2
   go_ret
   exact ⟨rfl, HB2.out⟩
set_option maxHeartbeats 1000000 in
theorem slices_IndexFunc_string_string.calls_vols_Right_1 (A0 : Option Addr) (c0 : Nat) (l0 : List ByteArray) (r : Int) (w : World) (hr0 : Kd.C Kd.string w A0 l0.length l0) (hc0 : l0.length ≤ c0) (h : slices_IndexFunc_string_string.idx (fun s => vols_Right_1.f s) l0 0 = some r) :
  Calls Try.prog 102 #[.slice A0 l0.length c0, .func (.func 84) #[] #[]] w fun e w' => e = .returned (.int .i64 r) ∧ Below w.heap.size w w' := by
 have HR0 := a0_ hr0
 have hmax : l0.length ≤ 9223372036854775807 := hr0.2.1
 clear hr0 hc0
 have HB := a0_ (Below.refl w.heap.size w)
 have H : Aside0 (slices_IndexFunc_string_string.idx (fun s => vols_Right_1.f s) (l0.drop 0) ((0 : Nat) : Int) = some r) := ⟨h⟩
 clear h
 have eg : ∀ args w, (callFunc 84 args).run Try.prog w = .ok (.enter 84 args) w := enters_of Try.func84 z11_ rfl
 go_enter Try.func102, Try.ntmps102
 go_wp2
 go_loopw [5, 8] (fun v5 v8 w' => ∃ (i : Nat), i ≤ l0.length ∧ v8 = .int .i64 i ∧ Aside0 (slices_IndexFunc_string_string.idx (fun s => vols_Right_1.f s) (l0.drop i) (i : Int) = some r) ∧ Aside0 (Below w.heap.size w w')) (fun _ v8 _ => l0.length - (intOf v8).toNat)
 case atStart => exact ⟨0, Nat.zero_le _, rfl, H, HB⟩
 case round =>
  clear H HB
  obtain ⟨i, hi, rfl, H, HB2⟩ := hrel
  by_cases hlt : i < l0.length
  ·have h := H.out
   rw [List.drop_eq_getElem_cons hlt] at h
   simp only [slices_IndexFunc_string_string.idx] at h
   have hat := Kd.at_string HR0.out (i : Int) z2_ z2_
   obtain ⟨ad, ead, hcell⟩ := hat
   cases ead
   have hs : rdOf ByteArray.empty l0 (i : Int) = l0[i] := by
    unfold rdOf
    rw [Int.toNat_natCast, List.getD_eq_getElem?_getD, List.getElem?_eq_getElem hlt]
    rfl
   rw [hs] at hcell
   replace hcell := (HB2.out.cell (World.block_lt_of_cell? w _ hcell)).trans hcell
   rw [Int.toNat_natCast] at hcell
   have hi0 : 0 ≤ (i : Int) := by omega
   have hi1 : (i : Int) < (l0.length : Int) := by omega
   have HS := a0_ hs
   clear hs H
   generalize l0[i] = s at *
   obtain ⟨b, hb, h⟩ := Option.bind_eq_some_iff.1 h
   have hcall : ∀ W : World, Calls Try.prog 84 #[.string s] W fun e w' => e = .returned (.bool b) ∧ Below W.heap.size W w' := fun W => (vols_Right_1.calls s b W hb).mono fun e w' ⟨he, hd⟩ => ⟨he, z29_⟩
   clear hb
   cases b with
   | true =>
    rw [if_pos rfl] at h
    obtain rfl := Option.some.inj h
    go_wp2_with (go_at_fn 84; refine (hcall _).mono ?_; rintro e w2 ⟨rfl, hb⟩; have HB3 := a0_ (below_step HB2.out hb); clear hb)
    go_ret
    exact ⟨rfl, HB3.out⟩
   | false =>
    rw [if_neg z17_] at h
    have H := a0_ h
    clear h
    go_wp2_with (go_at_fn 84; refine (hcall _).mono ?_; rintro e w2 ⟨rfl, hb⟩; have HB3 := a0_ (below_step HB2.out hb); clear hb)
    go_roundw
    case measure => simp [intOf]; omega
    case rel => exact ⟨i + 1, z2_, z30_, H, HB3⟩
  ·obtain rfl : i = l0.length := by omega
   have h := H.out
   rw [List.drop_length] at h
   simp only [slices_IndexFunc_string_string.idx] at h
   obtain rfl := Option.some.inj h
   clear H h
   go_wp2
   go_ret
   exact ⟨rfl, HB2.out⟩
theorem slices_IndexFunc_string_string.calls (A0 : Option Addr) (c0 : Nat) (l0 : List ByteArray) (a1 : Nat) (r : Int) (w : World) (hr0 : Kd.C Kd.string w A0 l0.length l0) (hc0 : l0.length ≤ c0) (h : slices_IndexFunc_string_string.f l0 a1 = some r) :
  Calls Try.prog 102 #[.slice A0 l0.length c0, .func (.func a1) #[] #[]] w fun e w' => e = .returned (.int .i64 r) ∧ Below w.heap.size w w' := by
 unfold slices_IndexFunc_string_string.f at h
 by_cases e0 : a1 = 97
 ·subst e0
  rw [if_pos rfl] at h
  exact slices_IndexFunc_string_string.calls_link_Right_1 A0 c0 l0 r w hr0 hc0 h
 rw [if_neg e0] at h
 by_cases e1 : a1 = 84
 ·subst e1
  rw [if_pos rfl] at h
  exact slices_IndexFunc_string_string.calls_vols_Right_1 A0 c0 l0 r w hr0 hc0 h
 rw [if_neg e1] at h
 cases h
def slices_ContainsFunc_string_string.f (l0 : List ByteArray) (a1 : Nat) : Option Bool := (slices_IndexFunc_string_string.f l0 a1).bind fun t => some (decide (0 ≤ t))
theorem slices_ContainsFunc_string_string.calls (A0 : Option Addr) (c0 : Nat) (l0 : List ByteArray) (a1 : Nat) (r : Bool) (w : World) (hr0 : Kd.C Kd.string w A0 l0.length l0) (hc0 : l0.length ≤ c0) (h : slices_ContainsFunc_string_string.f l0 a1 = some r) :
  Calls Try.prog 83 #[.slice A0 l0.length c0, .func (.func a1) #[] #[]] w fun e w' => e = .returned (.bool r) ∧ Below w.heap.size w w' := by
 unfold slices_ContainsFunc_string_string.f at h
 obtain ⟨t, ht, h⟩ := Option.bind_eq_some_iff.1 h
 obtain rfl := Option.some.inj h
 clear h
 have HB := a0_ (Below.refl w.heap.size w)
 have hcall := slices_IndexFunc_string_string.calls A0 c0 l0 a1 t w hr0 hc0 ht
 clear hr0 hc0 ht
 by_cases h : 0 ≤ t
 ·have h1 : decide (0 ≤ t) = true := decide_eq_true h
  rw [h1]
  go_enter Try.func83, Try.ntmps83
  go_wp2_with (go_at_call 102; refine hcall.mono ?_; rintro e w2 ⟨rfl, hb⟩)
  go_ret
  exact ⟨rfl, hb⟩
 ·have h1 : decide (0 ≤ t) = false := decide_eq_false h
  rw [h1]
  go_enter Try.func83, Try.ntmps83
  go_wp2_with (go_at_call 102; refine hcall.mono ?_; rintro e w2 ⟨rfl, hb⟩)
  go_ret
  exact ⟨rfl, hb⟩
mutual
def vols_Right.l0 : Nat → List (S137) → Int → List (S137) → Int → Int → Option (Bool)
 | 0, _, _, _, _, _ => none
 | k + 1, x0, x3, x6, x7, x8 => if x8 < x7 then (if 0 ≤ x8 then (if x8 < (x6.length : Int) then (if ((rd_T137 x6 x8).f0) ≤ x3 then (vols_Right.j1 k x0 x6 x7 x8 true ((rd_T137 x6 x8).f0) ((rd_T137 x6 x8).f1)) else (if ((rd_T137 x6 x8).f0) > 255 then (vols_Right.j1 k x0 x6 x7 x8 true ((rd_T137 x6 x8).f0) ((rd_T137 x6 x8).f1)) else ((vols_size.f (((rd_T137 x6 x8).f1).length : Int)).bind fun t127 => (vols_Right.j1 k x0 x6 x7 x8 (!t127) ((rd_T137 x6 x8).f0) ((rd_T137 x6 x8).f1))))) else (none)) else (none)) else (some (decide ((x0.length : Int) ≤ 4)))
def vols_Right.j1 : Nat → List (S137) → List (S137) → Int → Int → Bool → Int → List ByteArray → Option (Bool)
 | 0, _, _, _, _, _, _, _ => none
 | k + 1, x0, x6, x7, x8, x27, x127000, x127001 => if x27 = true then (some false) else ((slices_ContainsFunc_string_string.f x127001 84).bind fun t128 => (if t128 = true then (some false) else (vols_Right.l0 k x0 x127000 x6 x7 (wrap64 (x8 + 1)))))
end
def vols_Right.f (k : Nat) (l0 : List (S137)) : Option (Bool) := vols_Right.l0 k l0 0 l0 (l0.length : Int) 0
set_option maxHeartbeats 8000000 in
set_option maxRecDepth 100000 in
theorem vols_Right.calls (k : Nat) (A0 : Option Addr) (c0 : Nat) (l0 : List (S137)) (r : Bool) (w : World) (hr0 : Kd.C k137 w A0 l0.length l0) (hc0 : l0.length ≤ c0) (h : vols_Right.f k l0 = some r) :
  Calls Try.prog 44 #[.slice A0 l0.length c0] w fun e w' => e = .returned (.bool r) ∧ Below w.heap.size w w' := by
 have hu137 := Try.underlying137
 have HR0 := a0_ hr0
 have HC0 := a0_ hc0
 clear hr0 hc0
 have HB := a0_ (Below.refl w.heap.size w)
 have H : (vols_Right.l0 k l0 0 l0 (l0.length : Int) 0) = some r := h
 clear h
 have H' := a0_ H
 clear H
 go_enter Try.func44, Try.ntmps44
 go_wp2
 go_loopg [3, 8] k (fun kq v3 v8 w' => ∃ (x3_1 : Int) (x8_1 : Int), v3 = .int .i64 x3_1 ∧ v8 = .int .i64 x8_1 ∧ Aside0 (vols_Right.l0 kq l0 x3_1 l0 (l0.length : Int) x8_1 = some r) ∧ Aside0 (kq ≤ k) ∧ Aside0 (Below w.heap.size w w'))
 case atStart => exact ⟨(0), (0), z9_, z9_, H', ⟨Nat.le_refl _⟩, ⟨z6_⟩⟩
 case round =>
  clear H'
  obtain ⟨x3_1, x8_1, rfl, rfl, HA, HK1, HB⟩ := hrel
  cases gk with
  | zero => exact absurd HA.out (by simp [vols_Right.l0])
  | succ k1 =>
   have H := HA.out
   clear HA
   simp only [vols_Right.l0] at H
   by_cases c2 : x8_1 < (l0.length : Int)
   ·rw [if_pos c2] at H
    have c2b0 : decide (x8_1 < (l0.length : Int)) = true := decide_eq_true c2
    clear c2
    by_cases c3 : 0 ≤ x8_1
    ·rw [if_pos c3] at H
     have c3b0 : decide (0 ≤ x8_1) = true := decide_eq_true c3
     clear c3
     by_cases c4 : x8_1 < (l0.length : Int)
     ·rw [if_pos c4] at H
      have c4b0 : decide (x8_1 < (l0.length : Int)) = true := decide_eq_true c4
      clear c4
      have HC5 := a0_ H
      clear H
      have p125 : 0 ≤ (x8_1 : Int) := of_decide_eq_true z19_
      have q125 : x8_1 < (l0.length : Int) := of_decide_eq_true z19_
      obtain ⟨ad125, A125_1, c125_1, e125, hx125_0, hx125_1, hl125_1, hi125_1⟩ := at_T137 HR0.out x8_1 p125 q125
      cases e125
      replace hx125_0 := (HB.out.cell (World.block_lt_of_cell? w _ hx125_0)).trans hx125_0
      replace hx125_1 := (HB.out.cell (World.block_lt_of_cell? w _ hx125_1)).trans hx125_1
      have HR125_1 := a0_ hi125_1
      have HC125_1 := a0_ hl125_1
      clear hi125_1 hl125_1
      replace p125 := eq_true p125
      replace q125 := eq_true q125
      go_upto_region 5 with (first | ((with_reducible refine gate_dst (N := 5) rfl ?_); (try (refine gate_guard (by rfl) ?_; dsimp only)); refine box_event ?hg (N := 5) ?hd (cs := #[.int .i64 0, .slice none 0 0]) (t := 137) ?hr ?_; (case hd => rfl); (case hg => rfl); (case hr => exact z7_); intro gb126 hg w6 hbox hb; have n0_ := a0_ (below_step z6_ hb); have n1_ := a0_ (hbox); have n2_ := a0_ ((z8_ : w.heap.size ≤ gb126)); have n3_ := a0_ ((z8_ : w.heap.size ≤ gb126)); clear HB; have HB := n0_; have BK126 := n1_; have GW126 := n2_; have GE126 := n3_; clear n0_ n1_ n2_ n3_; clear hb hbox hg; have hcz7_0 := blk_cell BK126.out 0; have hcz7_1 := blk_cell BK126.out 1; have hfz7_0 := blk_frozen BK126.out 0; have hfz7_1 := blk_frozen BK126.out 1))
      (try simp only [Act.put, List.setIfInBounds_toArray, List.set_cons_zero, List.set_cons_succ])
      go_cut [27] (fun v27 wc => ∃ (kq : Nat) (x27_4 : Bool), v27 = .bool x27_4 ∧ Aside0 (vols_Right.j1 kq l0 l0 (l0.length : Int) x8_1 x27_4 ((rd_T137 l0 x8_1).f0) ((rd_T137 l0 x8_1).f1) = some r) ∧ Aside0 (kq ≤ k1) ∧ Aside0 (wc.heap[gb126]? = some (.cells #[.int .i64 ((rd_T137 l0 x8_1).f0), (.slice A125_1 ((rd_T137 l0 x8_1).f1).length c125_1)] 137 (0, 0))) ∧ Aside0 (Below w.heap.size w wc))
      case first =>
       have H := HC5.out
       clear HC5
       by_cases c8 : ((rd_T137 l0 x8_1).f0) ≤ x3_1
       ·rw [if_pos c8] at H
        have c8b0 : decide (((rd_T137 l0 x8_1).f0) ≤ x3_1) = true := decide_eq_true c8
        clear c8
        (first | rw [c8b0] | (simp only [i64_w, i32_w]; rw [c8b0]) | skip)
        have H' := a0_ H
        clear H
        have hcz9_0 := blk_cell BK126.out 0
        have hcz9_1 := blk_cell BK126.out 1
        have hfz9_0 := blk_frozen BK126.out 0
        have hfz9_1 := blk_frozen BK126.out 1
        go_wp2
        go_meet
        case rel => exact ⟨_, (true), z9_, H', ⟨z34_⟩, ⟨z35_⟩, ⟨z36_⟩⟩
       ·rw [if_neg c8] at H
        have c8b0 : decide (((rd_T137 l0 x8_1).f0) ≤ x3_1) = false := decide_eq_false c8
        clear c8
        (first | rw [c8b0] | (simp only [i64_w, i32_w]; rw [c8b0]) | skip)
        by_cases c10 : ((rd_T137 l0 x8_1).f0) > 255
        ·rw [if_pos c10] at H
         have c10b0 : decide (255 < ((rd_T137 l0 x8_1).f0)) = true := decide_eq_true c10
         clear c10
         have H' := a0_ H
         clear H
         have hcz11_0 := blk_cell BK126.out 0
         have hcz11_1 := blk_cell BK126.out 1
         have hfz11_0 := blk_frozen BK126.out 0
         have hfz11_1 := blk_frozen BK126.out 1
         go_wp2
         go_meet
         case rel => exact ⟨_, (true), z9_, H', ⟨z34_⟩, ⟨z35_⟩, ⟨z36_⟩⟩
        ·rw [if_neg c10] at H
         have c10b0 : decide (255 < ((rd_T137 l0 x8_1).f0)) = false := decide_eq_false c10
         clear c10
         replace H := Option.bind_eq_some_iff.mp H
         obtain ⟨t127, A120, H⟩ := H
         try dsimp only at H
         have A12 := a0_ A120
         clear A120
         have H' := a0_ H
         clear H
         have hcz13_0 := blk_cell BK126.out 0
         have hcz13_1 := blk_cell BK126.out 1
         have hfz13_0 := blk_frozen BK126.out 0
         have hfz13_1 := blk_frozen BK126.out 1
         go_wp2_with (first | (go_at_call 82; (with_reducible refine (vols_size.calls (((rd_T137 l0 x8_1).f1).length : Int) t127 _ A12.out).mono ?_); rintro e w' ⟨rfl, ⟨nd, rfl⟩⟩))
         go_meet
         case rel => exact ⟨_, (!t127), z9_, H', ⟨z34_⟩, ⟨z35_⟩, ⟨z36_⟩⟩
      case rest =>
       clear HC5
       obtain ⟨kq, x27_4, rfl, HA, HJ4, BK126, HB⟩ := hcut
       cases kq with
       | zero => exact absurd HA.out (by simp [vols_Right.j1])
       | succ kj4 =>
        have H := HA.out
        clear HA
        simp only [vols_Right.j1] at H
        by_cases c14 : x27_4 = true
        ·subst c14
         rw [if_pos rfl] at H
         obtain rfl := Option.some.inj H
         go_wp2
         go_ret
         exact ⟨z3_, z36_⟩
        ·replace c14 := Bool.eq_false_iff.mpr c14
         subst c14
         rw [if_neg (show ¬ (false = true) from z17_)] at H
         replace H := Option.bind_eq_some_iff.mp H
         obtain ⟨t128, A150, H⟩ := H
         try dsimp only at H
         have A15 := a0_ A150
         clear A150
         by_cases c16 : t128 = true
         ·subst c16
          rw [if_pos rfl] at H
          obtain rfl := Option.some.inj H
          have hcz17_0 := blk_cell BK126.out 0
          have hcz17_1 := blk_cell BK126.out 1
          have hfz17_0 := blk_frozen BK126.out 0
          have hfz17_1 := blk_frozen BK126.out 1
          go_wp2_with (first | ((with_reducible refine gate_callee (f := 83) rfl ?_); refine goesL_ (some 30) rfl rfl Try.func83 z11_ rfl #[.slice A125_1 ((rd_T137 l0 x8_1).f1).length c125_1, .func (.func 84) #[] #[]] rfl z12_ ?_; (with_reducible refine (slices_ContainsFunc_string_string.calls _ _ ((rd_T137 l0 x8_1).f1) 84 true _ ?side1 ?side2 A15.out).mono ?_); (case side1 => exact z37_); (case side2 => exact HC125_1.out); rintro e w18 ⟨rfl, hb⟩; refine ⟨_, rfl, ?_⟩; replace BK126 := a0_ (blk_below z38_ hb); replace HB := a0_ (below_step z36_ hb); (try clear hb); (try clear hb2); (try clear hk); (try clear hi)))
          go_ret
          exact ⟨z3_, z36_⟩
         ·replace c16 := Bool.eq_false_iff.mpr c16
          subst c16
          rw [if_neg (show ¬ (false = true) from z17_)] at H
          have H' := a0_ H
          clear H
          have hcz19_0 := blk_cell BK126.out 0
          have hcz19_1 := blk_cell BK126.out 1
          have hfz19_0 := blk_frozen BK126.out 0
          have hfz19_1 := blk_frozen BK126.out 1
          go_wp2_with (first | ((with_reducible refine gate_callee (f := 83) rfl ?_); refine goesL_ (some 30) rfl rfl Try.func83 z11_ rfl #[.slice A125_1 ((rd_T137 l0 x8_1).f1).length c125_1, .func (.func 84) #[] #[]] rfl z12_ ?_; (with_reducible refine (slices_ContainsFunc_string_string.calls _ _ ((rd_T137 l0 x8_1).f1) 84 false _ ?side1 ?side2 A15.out).mono ?_); (case side1 => exact z37_); (case side2 => exact HC125_1.out); rintro e w20 ⟨rfl, hb⟩; refine ⟨_, rfl, ?_⟩; replace BK126 := a0_ (blk_below z38_ hb); replace HB := a0_ (below_step z36_ hb); (try clear hb); (try clear hb2); (try clear hk); (try clear hi); have hcz21_0 := blk_cell BK126.out 0; have hcz21_1 := blk_cell BK126.out 1; have hfz21_0 := blk_frozen BK126.out 0; have hfz21_1 := blk_frozen BK126.out 1))
          go_roundg kj4
          case measure => have := HK1.out; have := HJ4.out; omega
          case rel => exact ⟨(((rd_T137 l0 x8_1).f0)), (wrap64 (x8_1 + 1)), z9_, z9_, H', ⟨by have := HK1.out; have := HJ4.out; omega⟩, ⟨z36_⟩⟩
     ·rw [if_neg c4] at H
      exact absurd H (by simp)
    ·rw [if_neg c3] at H
     exact absurd H (by simp)
   ·rw [if_neg c2] at H
    have c2b0 : decide (x8_1 < (l0.length : Int)) = false := decide_eq_false c2
    clear c2
    obtain rfl := Option.some.inj H
    go_wp2
    go_ret
    exact qpx30_
end Go.Proofs.Ytecfndblgefhdaa.P
