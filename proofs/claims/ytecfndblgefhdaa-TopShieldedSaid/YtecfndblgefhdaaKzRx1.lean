import Derived.Test.YtecfndblgefhdaaKzRx0
namespace Go.Proofs.Ytecfndblgefhdaa.R
open Go.RowKit Go.Proofs.YtecfndblgefhdaaW.PrintWords Go.Proofs.YtecfndblgefhdaaW.PrintLast Go.Proofs.YtecfndblgefhdaaW.PrintMore
attribute [local go_sem] max2_int min2_int max_two min_two max_three min_three max_four min_four
set_option linter.unusedVariables false
set_option linter.unusedSimpArgs false
theorem qrx10_ {p : Prop} (h : p := by exact ⟨z2_, z3_⟩) : p := h
def vols_Right_1.f (a0 : ByteArray) : Option (Bool) := some (decide ((a0.size : Int) > 8))
set_option maxHeartbeats 8000000 in
set_option maxRecDepth 100000 in
theorem vols_Right_1.calls (a0 : ByteArray) (r : Bool) (w : World) (h : vols_Right_1.f a0 = some r) :
  Calls Try.prog 84 #[.string a0] w fun e w' => e = .returned (.bool r) ∧ Drawn0 w w' := by
 have H : (some (decide ((a0.size : Int) > 8))) = some r := h
 clear h
 obtain rfl := Option.some.inj H
 go_enter Try.func84, Try.ntmps84
 go_wp2
 go_ret
 exact ⟨z4_, z5_⟩
def vols_size.f (a0 : Int) : Option (Bool) := if a0 ≥ 1 then (some (decide (a0 ≤ 32))) else (some false)
set_option maxHeartbeats 8000000 in
set_option maxRecDepth 100000 in
theorem vols_size.calls (a0 : Int) (r : Bool) (w : World) (h : vols_size.f a0 = some r) :
  Calls Try.prog 82 #[.int .i64 a0] w fun e w' => e = .returned (.bool r) ∧ Drawn0 w w' := by
 have H : (if a0 ≥ 1 then (some (decide (a0 ≤ 32))) else (some false)) = some r := h
 clear h
 by_cases c2 : a0 ≥ 1
 ·rw [if_pos c2] at H
  have c2b0 : decide (1 ≤ a0) = true := decide_eq_true c2
  clear c2
  obtain rfl := Option.some.inj H
  go_enter Try.func82, Try.ntmps82
  go_wp2
  go_ret
  exact ⟨z4_, z5_⟩
 ·rw [if_neg c2] at H
  have c2b0 : decide (1 ≤ a0) = false := decide_eq_false c2
  clear c2
  obtain rfl := Option.some.inj H
  go_enter Try.func82, Try.ntmps82
  go_wp2
  go_ret
  exact ⟨z4_, z5_⟩
def slices_IndexFunc_string_string.idx (g : ByteArray → Option Bool) : List ByteArray → Int → Option Int
 | [], _ => some (-1)
 | s :: r, i => (g s).bind fun b => if b = true then some i else slices_IndexFunc_string_string.idx g r (i + 1)
def slices_IndexFunc_string_string.f (l0 : List ByteArray) (a1 : Nat) : Option Int := if a1 = 84 then slices_IndexFunc_string_string.idx (fun s => vols_Right_1.f s) l0 0 else none
set_option maxHeartbeats 1000000 in
theorem slices_IndexFunc_string_string.calls_vols_Right_1 (A0 : Option Addr) (c0 : Nat) (l0 : List ByteArray) (r : Int) (w : World) (hr0 : Kd.C Kd.string w A0 l0.length l0) (hc0 : l0.length ≤ c0) (h : slices_IndexFunc_string_string.idx (fun s => vols_Right_1.f s) l0 0 = some r) :
  Calls Try.prog 102 #[.slice A0 l0.length c0, .func (.func 84) #[] #[]] w fun e w' => e = .returned (.int .i64 r) ∧ Below w.heap.size w w' := by
 have HR0 := a0_ hr0
 have hmax : l0.length ≤ 9223372036854775807 := hr0.2.1
 clear hr0 hc0
 have HB := a0_ (Below.refl w.heap.size w)
 have H : Aside0 (slices_IndexFunc_string_string.idx (fun s => vols_Right_1.f s) (l0.drop 0) ((0 : Nat) : Int) = some r) := ⟨h⟩
 clear h
 have eg : ∀ args w, (callFunc 84 args).run Try.prog w = .ok (.enter 84 args) w := enters_of Try.func84 z6_ rfl
 go_enter Try.func102, Try.ntmps102
 go_wp2
 go_loopw [5, 8] (fun v5 v8 w' => ∃ (i : Nat), i ≤ l0.length ∧ v8 = .int .i64 i ∧ Aside0 (slices_IndexFunc_string_string.idx (fun s => vols_Right_1.f s) (l0.drop i) (i : Int) = some r) ∧ Aside0 (Below w.heap.size w w')) (fun _ v8 _ => l0.length - (intOf v8).toNat)
 case atStart => exact ⟨0, Nat.zero_le _, rfl, H, HB⟩
 case round =>
  clear H HB
  obtain ⟨i, hi, rfl, H, HB2⟩ := hrel
  by_cases hlt : i < l0.length
  ·have h := H.out
   rw [List.drop_eq_getElem_cons hlt] at h
   simp only [slices_IndexFunc_string_string.idx] at h
   have hat := Kd.at_string HR0.out (i : Int) z7_ z7_
   obtain ⟨ad, ead, hcell⟩ := hat
   cases ead
   have hs : rdOf ByteArray.empty l0 (i : Int) = l0[i] := by
    unfold rdOf
    rw [Int.toNat_natCast, List.getD_eq_getElem?_getD, List.getElem?_eq_getElem hlt]
    rfl
   rw [hs] at hcell
   replace hcell := (HB2.out.cell (World.block_lt_of_cell? w _ hcell)).trans hcell
   rw [Int.toNat_natCast] at hcell
   have hi0 : 0 ≤ (i : Int) := by omega
   have hi1 : (i : Int) < (l0.length : Int) := by omega
   have HS := a0_ hs
   clear hs H
   generalize l0[i] = s at *
   obtain ⟨b, hb, h⟩ := Option.bind_eq_some_iff.1 h
   have hcall : ∀ W : World, Calls Try.prog 84 #[.string s] W fun e w' => e = .returned (.bool b) ∧ Below W.heap.size W w' := fun W => (vols_Right_1.calls s b W hb).mono fun e w' ⟨he, hd⟩ => ⟨he, by first | exact hd | exact hd.below⟩
   clear hb
   cases b with
   | true =>
    rw [if_pos rfl] at h
    obtain rfl := Option.some.inj h
    go_wp2_with (go_at_fn 84; refine (hcall _).mono ?_; rintro e w2 ⟨rfl, hb⟩; have HB3 := a0_ (below_step HB2.out hb); clear hb)
    go_ret
    exact ⟨rfl, HB3.out⟩
   | false =>
    rw [if_neg z8_] at h
    have H := a0_ h
    clear h
    go_wp2_with (go_at_fn 84; refine (hcall _).mono ?_; rintro e w2 ⟨rfl, hb⟩; have HB3 := a0_ (below_step HB2.out hb); clear hb)
    go_roundw
    case measure => simp [intOf]; omega
    case rel => exact ⟨i + 1, z7_, z9_, H, HB3⟩
  ·obtain rfl : i = l0.length := by omega
   have h := H.out
   rw [List.drop_length] at h
   simp only [slices_IndexFunc_string_string.idx] at h
   obtain rfl := Option.some.inj h
   clear H h
   go_wp2
   go_ret
   exact ⟨rfl, HB2.out⟩
theorem slices_IndexFunc_string_string.calls (A0 : Option Addr) (c0 : Nat) (l0 : List ByteArray) (a1 : Nat) (r : Int) (w : World) (hr0 : Kd.C Kd.string w A0 l0.length l0) (hc0 : l0.length ≤ c0) (h : slices_IndexFunc_string_string.f l0 a1 = some r) :
  Calls Try.prog 102 #[.slice A0 l0.length c0, .func (.func a1) #[] #[]] w fun e w' => e = .returned (.int .i64 r) ∧ Below w.heap.size w w' := by
 unfold slices_IndexFunc_string_string.f at h
 by_cases e0 : a1 = 84
 ·subst e0
  rw [if_pos rfl] at h
  exact slices_IndexFunc_string_string.calls_vols_Right_1 A0 c0 l0 r w hr0 hc0 h
 rw [if_neg e0] at h
 cases h
def slices_ContainsFunc_string_string.f (l0 : List ByteArray) (a1 : Nat) : Option Bool := (slices_IndexFunc_string_string.f l0 a1).bind fun t => some (decide (0 ≤ t))
theorem slices_ContainsFunc_string_string.calls (A0 : Option Addr) (c0 : Nat) (l0 : List ByteArray) (a1 : Nat) (r : Bool) (w : World) (hr0 : Kd.C Kd.string w A0 l0.length l0) (hc0 : l0.length ≤ c0) (h : slices_ContainsFunc_string_string.f l0 a1 = some r) :
  Calls Try.prog 83 #[.slice A0 l0.length c0, .func (.func a1) #[] #[]] w fun e w' => e = .returned (.bool r) ∧ Below w.heap.size w w' := by
 unfold slices_ContainsFunc_string_string.f at h
 obtain ⟨t, ht, h⟩ := Option.bind_eq_some_iff.1 h
 obtain rfl := Option.some.inj h
 clear h
 have HB := a0_ (Below.refl w.heap.size w)
 have hcall := slices_IndexFunc_string_string.calls A0 c0 l0 a1 t w hr0 hc0 ht
 clear hr0 hc0 ht
 by_cases h : 0 ≤ t
 ·have h1 : decide (0 ≤ t) = true := decide_eq_true h
  rw [h1]
  go_enter Try.func83, Try.ntmps83
  go_wp2_with (go_at_call 102; refine hcall.mono ?_; rintro e w2 ⟨rfl, hb⟩)
  go_ret
  exact ⟨rfl, hb⟩
 ·have h1 : decide (0 ≤ t) = false := decide_eq_false h
  rw [h1]
  go_enter Try.func83, Try.ntmps83
  go_wp2_with (go_at_call 102; refine hcall.mono ?_; rintro e w2 ⟨rfl, hb⟩)
  go_ret
  exact ⟨rfl, hb⟩
mutual
def vols_Right.l0 : Nat → List (S137) → Int → List (S137) → Int → Int → Option (Bool)
 | 0, _, _, _, _, _ => none
 | k + 1, x0, x3, x6, x7, x8 => if x8 < x7 then (if 0 ≤ x8 then (if x8 < (x6.length : Int) then (if ((rd_T137 x6 x8).f0) ≤ x3 then (vols_Right.j1 k x0 x6 x7 x8 true ((rd_T137 x6 x8).f0) ((rd_T137 x6 x8).f1)) else (if ((rd_T137 x6 x8).f0) > 255 then (vols_Right.j1 k x0 x6 x7 x8 true ((rd_T137 x6 x8).f0) ((rd_T137 x6 x8).f1)) else ((vols_size.f (((rd_T137 x6 x8).f1).length : Int)).bind fun t103 => (vols_Right.j1 k x0 x6 x7 x8 (!t103) ((rd_T137 x6 x8).f0) ((rd_T137 x6 x8).f1))))) else (none)) else (none)) else (some (decide ((x0.length : Int) ≤ 4)))
def vols_Right.j1 : Nat → List (S137) → List (S137) → Int → Int → Bool → Int → List ByteArray → Option (Bool)
 | 0, _, _, _, _, _, _, _ => none
 | k + 1, x0, x6, x7, x8, x27, x103000, x103001 => if x27 = true then (some false) else ((slices_ContainsFunc_string_string.f x103001 84).bind fun t104 => (if t104 = true then (some false) else (vols_Right.l0 k x0 x103000 x6 x7 (wrap64 (x8 + 1)))))
end
def vols_Right.f (k : Nat) (l0 : List (S137)) : Option (Bool) := vols_Right.l0 k l0 0 l0 (l0.length : Int) 0
set_option maxHeartbeats 8000000 in
set_option maxRecDepth 100000 in
theorem vols_Right.calls (k : Nat) (A0 : Option Addr) (c0 : Nat) (l0 : List (S137)) (r : Bool) (w : World) (hr0 : Kd.C k137 w A0 l0.length l0) (hc0 : l0.length ≤ c0) (h : vols_Right.f k l0 = some r) :
  Calls Try.prog 44 #[.slice A0 l0.length c0] w fun e w' => e = .returned (.bool r) ∧ Below w.heap.size w w' := by
 have hu137 := Try.underlying137
 have HR0 := a0_ hr0
 have HC0 := a0_ hc0
 clear hr0 hc0
 have HB := a0_ (Below.refl w.heap.size w)
 have H : (vols_Right.l0 k l0 0 l0 (l0.length : Int) 0) = some r := h
 clear h
 have H' := a0_ H
 clear H
 go_enter Try.func44, Try.ntmps44
 go_wp2
 go_loopg [3, 8] k (fun kq v3 v8 w' => ∃ (x3_1 : Int) (x8_1 : Int), v3 = .int .i64 x3_1 ∧ v8 = .int .i64 x8_1 ∧ Aside0 (vols_Right.l0 kq l0 x3_1 l0 (l0.length : Int) x8_1 = some r) ∧ Aside0 (kq ≤ k) ∧ Aside0 (Below w.heap.size w w'))
 case atStart => exact ⟨(0), (0), z4_, z4_, H', ⟨Nat.le_refl _⟩, ⟨z3_⟩⟩
 case round =>
  clear H'
  obtain ⟨x3_1, x8_1, rfl, rfl, HA, HK1, HB⟩ := hrel
  cases gk with
  | zero => exact absurd HA.out (by simp [vols_Right.l0])
  | succ k1 =>
   have H := HA.out
   clear HA
   simp only [vols_Right.l0] at H
   by_cases c2 : x8_1 < (l0.length : Int)
   ·rw [if_pos c2] at H
    have c2b0 : decide (x8_1 < (l0.length : Int)) = true := decide_eq_true c2
    clear c2
    by_cases c3 : 0 ≤ x8_1
    ·rw [if_pos c3] at H
     have c3b0 : decide (0 ≤ x8_1) = true := decide_eq_true c3
     clear c3
     by_cases c4 : x8_1 < (l0.length : Int)
     ·rw [if_pos c4] at H
      have c4b0 : decide (x8_1 < (l0.length : Int)) = true := decide_eq_true c4
      clear c4
      have HC5 := a0_ H
      clear H
      have p101 : 0 ≤ (x8_1 : Int) := of_decide_eq_true z10_
      have q101 : x8_1 < (l0.length : Int) := of_decide_eq_true z10_
      obtain ⟨ad101, A101_1, c101_1, e101, hx101_0, hx101_1, hl101_1, hi101_1⟩ := at_T137 HR0.out x8_1 p101 q101
      cases e101
      replace hx101_0 := (HB.out.cell (World.block_lt_of_cell? w _ hx101_0)).trans hx101_0
      replace hx101_1 := (HB.out.cell (World.block_lt_of_cell? w _ hx101_1)).trans hx101_1
      have HR101_1 := a0_ hi101_1
      have HC101_1 := a0_ hl101_1
      clear hi101_1 hl101_1
      replace p101 := eq_true p101
      replace q101 := eq_true q101
      go_upto_region 5 with (first | ((with_reducible refine gate_dst (N := 5) rfl ?_); (try (refine gate_guard (by rfl) ?_; dsimp only)); refine box_event ?hg (N := 5) ?hd (cs := #[.int .i64 0, .slice none 0 0]) (t := 137) ?hr ?_; (case hd => rfl); (case hg => rfl); (case hr => exact z11_); intro gb102 hg w6 hbox hb; have n0_ := a0_ (below_step z3_ hb); have n1_ := a0_ (hbox); have n2_ := a0_ ((z12_ : w.heap.size ≤ gb102)); have n3_ := a0_ ((z12_ : w.heap.size ≤ gb102)); clear HB; have HB := n0_; have BK102 := n1_; have GW102 := n2_; have GE102 := n3_; clear n0_ n1_ n2_ n3_; clear hb hbox hg; have hcz7_0 : w6.cell? ⟨gb102, 0, none⟩ = some (.int .i64 0) := (blk_cell BK102.out 0).trans rfl; have hcz7_1 : w6.cell? ⟨gb102, 1, none⟩ = some (.slice none 0 0) := (blk_cell BK102.out 1).trans rfl; have hfz7_0 := blk_frozen BK102.out 0; have hfz7_1 := blk_frozen BK102.out 1))
      (try simp only [Act.put, List.setIfInBounds_toArray, List.set_cons_zero, List.set_cons_succ])
      go_cut [27] (fun v27 wc => ∃ (kq : Nat) (x27_4 : Bool), v27 = .bool x27_4 ∧ Aside0 (vols_Right.j1 kq l0 l0 (l0.length : Int) x8_1 x27_4 ((rd_T137 l0 x8_1).f0) ((rd_T137 l0 x8_1).f1) = some r) ∧ Aside0 (kq ≤ k1) ∧ Aside0 (wc.heap[gb102]? = some (.cells #[.int .i64 ((rd_T137 l0 x8_1).f0), (.slice A101_1 ((rd_T137 l0 x8_1).f1).length c101_1)] 137 (0, 0))) ∧ Aside0 (Below w.heap.size w wc))
      case first =>
       have H := HC5.out
       clear HC5
       by_cases c8 : ((rd_T137 l0 x8_1).f0) ≤ x3_1
       ·rw [if_pos c8] at H
        have c8b0 : decide (((rd_T137 l0 x8_1).f0) ≤ x3_1) = true := decide_eq_true c8
        clear c8
        (first | rw [c8b0] | (simp only [i64_w, i32_w]; rw [c8b0]) | skip)
        have H' := a0_ H
        clear H
        have hcz9_0 : w6.cell? ⟨gb102, 0, none⟩ = some (.int .i64 0) := (blk_cell BK102.out 0).trans rfl
        have hcz9_1 : w6.cell? ⟨gb102, 1, none⟩ = some (.slice none 0 0) := (blk_cell BK102.out 1).trans rfl
        have hfz9_0 := blk_frozen BK102.out 0
        have hfz9_1 := blk_frozen BK102.out 1
        go_wp2
        go_meet
        case rel => exact ⟨_, (true), z4_, H', ⟨z13_⟩, ⟨z14_⟩, ⟨z15_⟩⟩
       ·rw [if_neg c8] at H
        have c8b0 : decide (((rd_T137 l0 x8_1).f0) ≤ x3_1) = false := decide_eq_false c8
        clear c8
        (first | rw [c8b0] | (simp only [i64_w, i32_w]; rw [c8b0]) | skip)
        by_cases c10 : ((rd_T137 l0 x8_1).f0) > 255
        ·rw [if_pos c10] at H
         have c10b0 : decide (255 < ((rd_T137 l0 x8_1).f0)) = true := decide_eq_true c10
         clear c10
         have H' := a0_ H
         clear H
         have hcz11_0 : w6.cell? ⟨gb102, 0, none⟩ = some (.int .i64 0) := (blk_cell BK102.out 0).trans rfl
         have hcz11_1 : w6.cell? ⟨gb102, 1, none⟩ = some (.slice none 0 0) := (blk_cell BK102.out 1).trans rfl
         have hfz11_0 := blk_frozen BK102.out 0
         have hfz11_1 := blk_frozen BK102.out 1
         go_wp2
         go_meet
         case rel => exact ⟨_, (true), z4_, H', ⟨z13_⟩, ⟨z14_⟩, ⟨z15_⟩⟩
        ·rw [if_neg c10] at H
         have c10b0 : decide (255 < ((rd_T137 l0 x8_1).f0)) = false := decide_eq_false c10
         clear c10
         replace H := Option.bind_eq_some_iff.mp H
         obtain ⟨t103, A120, H⟩ := H
         try dsimp only at H
         have A12 := a0_ A120
         clear A120
         have H' := a0_ H
         clear H
         have hcz13_0 : w6.cell? ⟨gb102, 0, none⟩ = some (.int .i64 0) := (blk_cell BK102.out 0).trans rfl
         have hcz13_1 : w6.cell? ⟨gb102, 1, none⟩ = some (.slice none 0 0) := (blk_cell BK102.out 1).trans rfl
         have hfz13_0 := blk_frozen BK102.out 0
         have hfz13_1 := blk_frozen BK102.out 1
         go_wp2_with (first | (go_at_call 82; (with_reducible refine (vols_size.calls (((rd_T137 l0 x8_1).f1).length : Int) t103 _ A12.out).mono ?_); rintro e w' ⟨rfl, ⟨nd, rfl⟩⟩))
         go_meet
         case rel => exact ⟨_, (!t103), z4_, H', ⟨z13_⟩, ⟨z14_⟩, ⟨z15_⟩⟩
      case rest =>
       clear HC5
       obtain ⟨kq, x27_4, rfl, HA, HJ4, BK102, HB⟩ := hcut
       cases kq with
       | zero => exact absurd HA.out (by simp [vols_Right.j1])
       | succ kj4 =>
        have H := HA.out
        clear HA
        simp only [vols_Right.j1] at H
        by_cases c14 : x27_4 = true
        ·subst c14
         rw [if_pos rfl] at H
         obtain rfl := Option.some.inj H
         go_wp2
         go_ret
         exact ⟨z2_, z15_⟩
        ·replace c14 := Bool.eq_false_iff.mpr c14
         subst c14
         rw [if_neg (show ¬ (false = true) from z8_)] at H
         replace H := Option.bind_eq_some_iff.mp H
         obtain ⟨t104, A150, H⟩ := H
         try dsimp only at H
         have A15 := a0_ A150
         clear A150
         by_cases c16 : t104 = true
         ·subst c16
          rw [if_pos rfl] at H
          obtain rfl := Option.some.inj H
          have hcz17_0 : wc.cell? ⟨gb102, 0, none⟩ = some (.int .i64 ((rd_T137 l0 x8_1).f0)) := (blk_cell BK102.out 0).trans rfl
          have hcz17_1 : wc.cell? ⟨gb102, 1, none⟩ = some (.slice A101_1 ((rd_T137 l0 x8_1).f1).length c101_1) := (blk_cell BK102.out 1).trans rfl
          have hfz17_0 := blk_frozen BK102.out 0
          have hfz17_1 := blk_frozen BK102.out 1
          go_wp2_with (first | ((with_reducible refine gate_callee (f := 83) rfl ?_); refine goesL_ (some 30) rfl rfl Try.func83 z6_ rfl #[.slice A101_1 ((rd_T137 l0 x8_1).f1).length c101_1, .func (.func 84) #[] #[]] rfl z16_ ?_; (with_reducible refine (slices_ContainsFunc_string_string.calls _ _ ((rd_T137 l0 x8_1).f1) 84 true _ ?side1 ?side2 A15.out).mono ?_); (case side1 => exact z17_); (case side2 => exact HC101_1.out); rintro e w18 ⟨rfl, hb⟩; refine ⟨_, rfl, ?_⟩; replace BK102 := a0_ (blk_below z18_ hb); replace HB := a0_ (below_step z15_ hb); (try clear hb); (try clear hb2); (try clear hk); (try clear hi)))
          go_ret
          exact ⟨z2_, z15_⟩
         ·replace c16 := Bool.eq_false_iff.mpr c16
          subst c16
          rw [if_neg (show ¬ (false = true) from z8_)] at H
          have H' := a0_ H
          clear H
          have hcz19_0 : wc.cell? ⟨gb102, 0, none⟩ = some (.int .i64 ((rd_T137 l0 x8_1).f0)) := (blk_cell BK102.out 0).trans rfl
          have hcz19_1 : wc.cell? ⟨gb102, 1, none⟩ = some (.slice A101_1 ((rd_T137 l0 x8_1).f1).length c101_1) := (blk_cell BK102.out 1).trans rfl
          have hfz19_0 := blk_frozen BK102.out 0
          have hfz19_1 := blk_frozen BK102.out 1
          go_wp2_with (first | ((with_reducible refine gate_callee (f := 83) rfl ?_); refine goesL_ (some 30) rfl rfl Try.func83 z6_ rfl #[.slice A101_1 ((rd_T137 l0 x8_1).f1).length c101_1, .func (.func 84) #[] #[]] rfl z16_ ?_; (with_reducible refine (slices_ContainsFunc_string_string.calls _ _ ((rd_T137 l0 x8_1).f1) 84 false _ ?side1 ?side2 A15.out).mono ?_); (case side1 => exact z17_); (case side2 => exact HC101_1.out); rintro e w20 ⟨rfl, hb⟩; refine ⟨_, rfl, ?_⟩; replace BK102 := a0_ (blk_below z18_ hb); replace HB := a0_ (below_step z15_ hb); (try clear hb); (try clear hb2); (try clear hk); (try clear hi); have hcz21_0 : w20.cell? ⟨gb102, 0, none⟩ = some (.int .i64 ((rd_T137 l0 x8_1).f0)) := (blk_cell BK102.out 0).trans rfl; have hcz21_1 : w20.cell? ⟨gb102, 1, none⟩ = some (.slice A101_1 ((rd_T137 l0 x8_1).f1).length c101_1) := (blk_cell BK102.out 1).trans rfl; have hfz21_0 := blk_frozen BK102.out 0; have hfz21_1 := blk_frozen BK102.out 1))
          go_roundg kj4
          case measure => have := HK1.out; have := HJ4.out; omega
          case rel => exact ⟨(((rd_T137 l0 x8_1).f0)), (wrap64 (x8_1 + 1)), z4_, z4_, H', ⟨by have := HK1.out; have := HJ4.out; omega⟩, ⟨z15_⟩⟩
     ·rw [if_neg c4] at H
      exact absurd H (by simp)
    ·rw [if_neg c3] at H
     exact absurd H (by simp)
   ·rw [if_neg c2] at H
    have c2b0 : decide (x8_1 < (l0.length : Int)) = false := decide_eq_false c2
    clear c2
    obtain rfl := Option.some.inj H
    go_wp2
    go_ret
    exact qrx10_
mutual
def counterfoiltop_small.j0 : Nat → List (List (S120)) → Int → Bool → Option (Bool)
 | 0, _, _, _ => none
 | k + 1, x1, x2, x15 => if x15 = true then (some false) else (counterfoiltop_small.l0 k x1 x2 0)
def counterfoiltop_small.l0 : Nat → List (List (S120)) → Int → Int → Option (Bool)
 | 0, _, _, _ => none
 | k + 1, x1, x2, x7 => if x7 < (x1.length : Int) then (counterfoiltop_small.j2 k x1 x2 x7 (decide (x7 < x2))) else (counterfoiltop_small.j2 k x1 x2 x7 false)
def counterfoiltop_small.j2 : Nat → List (List (S120)) → Int → Int → Bool → Option (Bool)
 | 0, _, _, _, _ => none
 | k + 1, x1, x2, x7, x24 => if x24 = true then (if 0 ≤ x7 then (if x7 < (x1.length : Int) then (if ((rd_L6 x1 x7).length : Int) > 20 then (some false) else (counterfoiltop_small.l0 k x1 x2 (wrap64 (x7 + 1)))) else (none)) else (none)) else (some true)
end
def counterfoiltop_small.f (k : Nat) (l0 : List (S137)) (l1 : List (List (S120))) (a2 : Int) : Option (Bool) := (vols_Right.f k l0).bind fun t105 => (if t105 = true then (counterfoiltop_small.j0 k l1 a2 (decide ((l0.length : Int) > 4))) else (counterfoiltop_small.j0 k l1 a2 true))
set_option maxHeartbeats 8000000 in
set_option maxRecDepth 100000 in
theorem counterfoiltop_small.calls (k : Nat) (A0 : Option Addr) (c0 : Nat) (l0 : List (S137)) (A1 : Option Addr) (c1 : Nat) (l1 : List (List (S120))) (a2 : Int) (r : Bool) (w : World) (hr0 : Kd.C k137 w A0 l0.length l0) (hc0 : l0.length ≤ c0) (hr1 : Kd.C (Kd.slice 120 k120) w A1 l1.length l1) (hc1 : l1.length ≤ c1) (h : counterfoiltop_small.f k l0 l1 a2 = some r) :
  Calls Try.prog 12 #[.slice A0 l0.length c0, .slice A1 l1.length c1, .int .i64 a2] w fun e w' => e = .returned (.bool r) ∧ Below w.heap.size w w' := by
 have HR0 := a0_ hr0
 have HC0 := a0_ hc0
 clear hr0 hc0
 have HR1 := a0_ hr1
 have HC1 := a0_ hc1
 clear hr1 hc1
 have HB := a0_ (Below.refl w.heap.size w)
 have H : ((vols_Right.f k l0).bind fun t105 => (if t105 = true then (counterfoiltop_small.j0 k l1 a2 (decide ((l0.length : Int) > 4))) else (counterfoiltop_small.j0 k l1 a2 true))) = some r := h
 clear h
 have HC4 := a0_ H
 clear H
 go_enter Try.func12, Try.ntmps12
 go_upto_region 1 with (fail)
 go_cut [15] (fun v15 wc => ∃ (kq : Nat) (x15_3 : Bool), v15 = .bool x15_3 ∧ Aside0 (counterfoiltop_small.j0 kq l1 a2 x15_3 = some r) ∧ Aside0 (kq ≤ k) ∧ Aside0 (Below w.heap.size w wc))
 case first =>
  have H := HC4.out
  clear HC4
  replace H := Option.bind_eq_some_iff.mp H
  obtain ⟨t105, A50, H⟩ := H
  try dsimp only at H
  have A5 := a0_ A50
  clear A50
  by_cases c6 : t105 = true
  ·subst c6
   rw [if_pos rfl] at H
   have H' := a0_ H
   clear H
   go_wp2_with (first | ((with_reducible refine gate_callee (f := 44) rfl ?_); refine goesL_ (some 9) rfl rfl Try.func44 z6_ rfl #[.slice A0 l0.length c0] rfl z16_ ?_; (with_reducible refine (vols_Right.calls k _ _ l0 true _ ?side1 ?side2 A5.out).mono ?_); (case side1 => exact z19_); (case side2 => exact z20_); rintro e w7 ⟨rfl, hb⟩; refine ⟨_, rfl, ?_⟩; replace HB := a0_ (below_step z3_ hb); (try clear hb); (try clear hb2); (try clear hk); (try clear hi)))
   go_meet
   case rel => exact ⟨_, (decide ((l0.length : Int) > 4)), z4_, H', ⟨z21_⟩, ⟨z3_⟩⟩
  ·replace c6 := Bool.eq_false_iff.mpr c6
   subst c6
   rw [if_neg (show ¬ (false = true) from z8_)] at H
   have H' := a0_ H
   clear H
   go_wp2_with (first | ((with_reducible refine gate_callee (f := 44) rfl ?_); refine goesL_ (some 9) rfl rfl Try.func44 z6_ rfl #[.slice A0 l0.length c0] rfl z16_ ?_; (with_reducible refine (vols_Right.calls k _ _ l0 false _ ?side1 ?side2 A5.out).mono ?_); (case side1 => exact z19_); (case side2 => exact z20_); rintro e w8 ⟨rfl, hb⟩; refine ⟨_, rfl, ?_⟩; replace HB := a0_ (below_step z3_ hb); (try clear hb); (try clear hb2); (try clear hk); (try clear hi)))
   go_meet
   case rel => exact ⟨_, (true), z4_, H', ⟨z21_⟩, ⟨z3_⟩⟩
 case rest =>
  clear HC4
  obtain ⟨kq, x15_3, rfl, HA, HJ3, HB⟩ := hcut
  cases kq with
  | zero => exact absurd HA.out (by simp [counterfoiltop_small.j0])
  | succ kj3 =>
   have H := HA.out
   clear HA
   simp only [counterfoiltop_small.j0] at H
   by_cases c9 : x15_3 = true
   ·subst c9
    rw [if_pos rfl] at H
    obtain rfl := Option.some.inj H
    go_wp2
    go_ret
    exact qrx10_
   ·replace c9 := Bool.eq_false_iff.mpr c9
    subst c9
    rw [if_neg (show ¬ (false = true) from z8_)] at H
    have H' := a0_ H
    clear H
    go_wp2
    go_loopg [7] kj3 (fun kq v7 w' => ∃ (x7_2 : Int), v7 = .int .i64 x7_2 ∧ Aside0 (counterfoiltop_small.l0 kq l1 a2 x7_2 = some r) ∧ Aside0 (kq ≤ kj3) ∧ Aside0 (Below w.heap.size w w'))
    case atStart => exact ⟨(0), z4_, H', ⟨Nat.le_refl _⟩, ⟨z3_⟩⟩
    case round =>
     clear H'
     obtain ⟨x7_2, rfl, HA, HK2, HB⟩ := hrel
     cases gk with
     | zero => exact absurd HA.out (by simp [counterfoiltop_small.l0])
     | succ k2 =>
      have H := HA.out
      clear HA
      simp only [counterfoiltop_small.l0] at H
      have HC10 := a0_ H
      clear H
      go_upto_region 4 with (fail)
      go_cut [24] (fun v24 wc => ∃ (kq : Nat) (x24_9 : Bool), v24 = .bool x24_9 ∧ Aside0 (counterfoiltop_small.j2 kq l1 a2 x7_2 x24_9 = some r) ∧ Aside0 (kq ≤ k2) ∧ Aside0 (Below w.heap.size w wc))
      case first =>
       have H := HC10.out
       clear HC10
       by_cases c11 : x7_2 < (l1.length : Int)
       ·rw [if_pos c11] at H
        have c11b0 : decide (x7_2 < (l1.length : Int)) = true := decide_eq_true c11
        clear c11
        (first | rw [c11b0] | (simp only [i64_w, i32_w]; rw [c11b0]) | skip)
        have H' := a0_ H
        clear H
        go_wp2
        go_meet
        case rel => exact ⟨_, (decide (x7_2 < a2)), z4_, H', ⟨z22_⟩, ⟨z3_⟩⟩
       ·rw [if_neg c11] at H
        have c11b0 : decide (x7_2 < (l1.length : Int)) = false := decide_eq_false c11
        clear c11
        (first | rw [c11b0] | (simp only [i64_w, i32_w]; rw [c11b0]) | skip)
        have H' := a0_ H
        clear H
        go_wp2
        go_meet
        case rel => exact ⟨_, (false), z4_, H', ⟨z22_⟩, ⟨z3_⟩⟩
      case rest =>
       clear HC10
       obtain ⟨kq, x24_9, rfl, HA, HJ9, HB⟩ := hcut
       cases kq with
       | zero => exact absurd HA.out (by simp [counterfoiltop_small.j2])
       | succ kj9 =>
        have H := HA.out
        clear HA
        simp only [counterfoiltop_small.j2] at H
        by_cases c12 : x24_9 = true
        ·subst c12
         rw [if_pos rfl] at H
         by_cases c13 : 0 ≤ x7_2
         ·rw [if_pos c13] at H
          have c13b0 : decide (0 ≤ x7_2) = true := decide_eq_true c13
          clear c13
          by_cases c14 : x7_2 < (l1.length : Int)
          ·rw [if_pos c14] at H
           have c14b0 : decide (x7_2 < (l1.length : Int)) = true := decide_eq_true c14
           clear c14
           by_cases c15 : ((rd_L6 l1 x7_2).length : Int) > 20
           ·rw [if_pos c15] at H
            have c15b0 : decide (20 < ((rd_L6 l1 x7_2).length : Int)) = true := decide_eq_true c15
            have c15b1 : decide (20 < (rd_L6 l1 x7_2).length) = true := decide_eq_true z7_
            clear c15
            obtain rfl := Option.some.inj H
            have p106 : 0 ≤ (x7_2 : Int) := of_decide_eq_true z10_
            have q106 : x7_2 < (l1.length : Int) := of_decide_eq_true z10_
            obtain ⟨ad106, A106_0, c106_0, e106, hx106_0, hl106_0, hi106_0⟩ := at_L6 HR1.out x7_2 p106 q106
            cases e106
            replace hx106_0 := (HB.out.cell (World.block_lt_of_cell? w _ hx106_0)).trans hx106_0
            have HR106_0 := a0_ hi106_0
            have HC106_0 := a0_ hl106_0
            clear hi106_0 hl106_0
            replace p106 := eq_true p106
            replace q106 := eq_true q106
            go_wp2
            go_ret
            exact qrx10_
           ·rw [if_neg c15] at H
            have c15b0 : decide (20 < ((rd_L6 l1 x7_2).length : Int)) = false := decide_eq_false c15
            have c15b1 : decide (20 < (rd_L6 l1 x7_2).length) = false := decide_eq_false z7_
            clear c15
            have H' := a0_ H
            clear H
            have p106 : 0 ≤ (x7_2 : Int) := of_decide_eq_true z10_
            have q106 : x7_2 < (l1.length : Int) := of_decide_eq_true z10_
            obtain ⟨ad106, A106_0, c106_0, e106, hx106_0, hl106_0, hi106_0⟩ := at_L6 HR1.out x7_2 p106 q106
            cases e106
            replace hx106_0 := (HB.out.cell (World.block_lt_of_cell? w _ hx106_0)).trans hx106_0
            have HR106_0 := a0_ hi106_0
            have HC106_0 := a0_ hl106_0
            clear hi106_0 hl106_0
            replace p106 := eq_true p106
            replace q106 := eq_true q106
            go_wp2
            go_roundg kj9
            case measure => have := HJ3.out; have := HK2.out; have := HJ9.out; omega
            case rel => exact ⟨(wrap64 (x7_2 + 1)), z4_, H', ⟨by have := HJ3.out; have := HK2.out; have := HJ9.out; omega⟩, ⟨z3_⟩⟩
          ·rw [if_neg c14] at H
           exact absurd H (by simp)
         ·rw [if_neg c13] at H
          exact absurd H (by simp)
        ·replace c12 := Bool.eq_false_iff.mpr c12
         subst c12
         rw [if_neg (show ¬ (false = true) from z8_)] at H
         obtain rfl := Option.some.inj H
         go_wp2
         go_ret
         exact qrx10_
def lag_Right.f (a0_0 : Int) (a0_1 : Int) (a0_2 : Bool) : Option (Bool) := if (mn a0_0 a0_1) ≥ 1 then (some (decide ((mx a0_0 a0_1) ≤ 1099511627776))) else (some false)
set_option maxHeartbeats 8000000 in
set_option maxRecDepth 100000 in
theorem lag_Right.calls (a0_0 : Int) (a0_1 : Int) (a0_2 : Bool) (r : Bool) (w : World) (h : lag_Right.f a0_0 a0_1 a0_2 = some r) :
  Calls Try.prog 13 #[.agg #[.int .i64 a0_0, .int .i64 a0_1, .bool a0_2]] w fun e w' => e = .returned (.bool r) ∧ Below w.heap.size w w' := by
 have hu61 := Try.underlying61
 have HB := a0_ (Below.refl w.heap.size w)
 have H : (if (mn a0_0 a0_1) ≥ 1 then (some (decide ((mx a0_0 a0_1) ≤ 1099511627776))) else (some false)) = some r := h
 clear h
 obtain ⟨ji2, hji2⟩ : ∃ j_ : Int, (mn a0_0 a0_1) = j_ := ⟨_, rfl⟩
 replace H : (if (ji2) ≥ 1 then (some (decide ((mx a0_0 a0_1) ≤ 1099511627776))) else (some false)) = some r := by first | (rw [hji2] at H; exact H) | (simp only [hji2] at H ⊢; exact H)
 have hji2_ : (if a0_1 < a0_0 then a0_1 else a0_0) = ji2 := hji2
 by_cases c3 : (ji2) ≥ 1
 ·rw [if_pos c3] at H
  have c3b0 : decide (1 ≤ (ji2)) = true := decide_eq_true c3
  clear c3
  obtain ⟨ji4, hji4⟩ : ∃ j_ : Int, (mx a0_0 a0_1) = j_ := ⟨_, rfl⟩
  replace H : (some (decide ((ji4) ≤ 1099511627776))) = some r := by first | (rw [hji4] at H; exact H) | (simp only [hji4] at H ⊢; exact H)
  have hji4_ : (if a0_0 < a0_1 then a0_1 else a0_0) = ji4 := hji4
  obtain rfl := Option.some.inj H
  go_enter Try.func13, Try.ntmps13
  go_wp2_with (first | ((with_reducible refine gate_dst (N := 1) rfl ?_); (try (refine gate_guard (by rfl) ?_; dsimp only)); refine box_event ?hg (N := 1) ?hd (cs := #[.int .i64 a0_0, .int .i64 a0_1, .bool a0_2]) (t := 61) ?hr ?_; (case hd => rfl); (case hg => rfl); (case hr => exact z11_); intro gb107 hg w5 hbox hb; have n0_ := a0_ (below_step z3_ hb); have n1_ := a0_ (hbox); have n2_ := a0_ ((z12_ : w.heap.size ≤ gb107)); have n3_ := a0_ ((z12_ : w.heap.size ≤ gb107)); clear HB; have HB := n0_; have BK107 := n1_; have GW107 := n2_; have GE107 := n3_; clear n0_ n1_ n2_ n3_; clear hb hbox hg; have hcz6_0 : w5.cell? ⟨gb107, 0, none⟩ = some (.int .i64 a0_0) := (blk_cell BK107.out 0).trans rfl; have hcz6_1 : w5.cell? ⟨gb107, 1, none⟩ = some (.int .i64 a0_1) := (blk_cell BK107.out 1).trans rfl; have hcz6_2 : w5.cell? ⟨gb107, 2, none⟩ = some (.bool a0_2) := (blk_cell BK107.out 2).trans rfl; obtain ⟨hfz6_0, hfz6_1, hfz6_2⟩ := bf3_ BK107.out))
  go_ret
  exact ⟨by first | rfl | (simp [errW_none, errW_some] <;> rfl) | (simp only [← hji2, ← hji4]; first | rfl | (simp [errW_none, errW_some] <;> rfl)) | (simp [*, errW_none, errW_some] <;> rfl), z23_⟩
 ·rw [if_neg c3] at H
  have c3b0 : decide (1 ≤ (ji2)) = false := decide_eq_false c3
  clear c3
  obtain rfl := Option.some.inj H
  go_enter Try.func13, Try.ntmps13
  go_wp2_with (first | ((with_reducible refine gate_dst (N := 1) rfl ?_); (try (refine gate_guard (by rfl) ?_; dsimp only)); refine box_event ?hg (N := 1) ?hd (cs := #[.int .i64 a0_0, .int .i64 a0_1, .bool a0_2]) (t := 61) ?hr ?_; (case hd => rfl); (case hg => rfl); (case hr => exact z11_); intro gb107 hg w7 hbox hb; have n0_ := a0_ (below_step z3_ hb); have n1_ := a0_ (hbox); have n2_ := a0_ ((z12_ : w.heap.size ≤ gb107)); have n3_ := a0_ ((z12_ : w.heap.size ≤ gb107)); clear HB; have HB := n0_; have BK107 := n1_; have GW107 := n2_; have GE107 := n3_; clear n0_ n1_ n2_ n3_; clear hb hbox hg; have hcz8_0 : w7.cell? ⟨gb107, 0, none⟩ = some (.int .i64 a0_0) := (blk_cell BK107.out 0).trans rfl; have hcz8_1 : w7.cell? ⟨gb107, 1, none⟩ = some (.int .i64 a0_1) := (blk_cell BK107.out 1).trans rfl; have hcz8_2 : w7.cell? ⟨gb107, 2, none⟩ = some (.bool a0_2) := (blk_cell BK107.out 2).trans rfl; obtain ⟨hfz8_0, hfz8_1, hfz8_2⟩ := bf3_ BK107.out))
  go_ret
  exact ⟨by first | rfl | (simp [errW_none, errW_some] <;> rfl) | (simp only [← hji2]; first | rfl | (simp [errW_none, errW_some] <;> rfl)) | (simp [*, errW_none, errW_some] <;> rfl), z23_⟩
def queue_fits.f (a0 : Int) : Option (Bool) := if a0 ≥ 0 then (some (decide (a0 ≤ 1099511627776))) else (some false)
set_option maxHeartbeats 8000000 in
set_option maxRecDepth 100000 in
theorem queue_fits.calls (a0 : Int) (r : Bool) (w : World) (h : queue_fits.f a0 = some r) :
  Calls Try.prog 47 #[.int .i64 a0] w fun e w' => e = .returned (.bool r) ∧ Drawn0 w w' := by
 have H : (if a0 ≥ 0 then (some (decide (a0 ≤ 1099511627776))) else (some false)) = some r := h
 clear h
 by_cases c2 : a0 ≥ 0
 ·rw [if_pos c2] at H
  have c2b0 : decide (0 ≤ a0) = true := decide_eq_true c2
  clear c2
  obtain rfl := Option.some.inj H
  go_enter Try.func47, Try.ntmps47
  go_wp2
  go_ret
  exact ⟨z4_, z5_⟩
 ·rw [if_neg c2] at H
  have c2b0 : decide (0 ≤ a0) = false := decide_eq_false c2
  clear c2
  obtain rfl := Option.some.inj H
  go_enter Try.func47, Try.ntmps47
  go_wp2
  go_ret
  exact ⟨z4_, z5_⟩
def queue_New.f (a0 : Int) : Option ((List (S51)) × (List (S120)) × Int × Int × Int) := (queue_fits.f a0).bind fun t109 => (if t109 = true then (some (([] : List (S51)), ([] : List (S120)), a0, a0, 0)) else (some (([] : List (S51)), ([] : List (S120)), 0, 0, 1)))
set_option maxHeartbeats 8000000 in
set_option maxRecDepth 100000 in
theorem queue_New.calls (a0 : Int) (r1 : List (S51)) (r2 : List (S120)) (r3 : Int) (r4 : Int) (r5 : Int) (w : World) (h : queue_New.f a0 = some (r1, r2, r3, r4, r5)) :
  Calls Try.prog 15 #[.int .i64 a0] w fun e w' => ∃ v0_ v1_ : Value, e = .returned (.tuple #[.agg #[v0_, v1_, .int .i64 r3, .int .i64 r4], .int .i64 r5]) ∧ Kd.S k51 51 w' w.heap.size (fun k_ => some k_ ≠ (v1_ : Value).ownBlock) v0_ r1 ∧ Kd.R k120 120 w' w.heap.size (fun _ => True) v1_ r2 ∧ Below w.heap.size w w' := by
 have hu68 := Try.underlying68
 have HB := a0_ (Below.refl w.heap.size w)
 have H : ((queue_fits.f a0).bind fun t109 => (if t109 = true then (some (([] : List (S51)), ([] : List (S120)), a0, a0, 0)) else (some (([] : List (S51)), ([] : List (S120)), 0, 0, 1)))) = some (r1, r2, r3, r4, r5) := h
 clear h
 replace H := Option.bind_eq_some_iff.mp H
 obtain ⟨t109, A20, H⟩ := H
 try dsimp only at H
 have A2 := a0_ A20
 clear A20
 by_cases c3 : t109 = true
 ·subst c3
  rw [if_pos rfl] at H
  simp only [Option.some.injEq, Prod.mk.injEq] at H
  obtain ⟨rfl, rfl, rfl, rfl, rfl⟩ := H
  go_enter Try.func15, Try.ntmps15
  go_wp2_with (first | ((with_reducible refine gate_dst (N := 2) rfl ?_); refine box_event ?hg (N := 2) ?hd (cs := #[.slice none 0 0, .slice none 0 0, .int .i64 0, .int .i64 0]) (t := 68) ?hr ?_; (case hd => rfl); (case hg => rfl); (case hr => exact z11_); intro gb108 hg w4 hbox hb; have n0_ := a0_ (below_step z3_ hb); have n1_ := a0_ (hbox); have n2_ := a0_ ((z12_ : w.heap.size ≤ gb108)); have n3_ := a0_ ((z12_ : w.heap.size ≤ gb108)); clear HB; have HB := n0_; have BK108 := n1_; have GW108 := n2_; have GE108 := n3_; clear n0_ n1_ n2_ n3_; clear hb hbox hg) | ((with_reducible refine gate_callee (f := 47) rfl ?_); refine goesL_ (some 5) rfl rfl Try.func47 z6_ rfl #[.int .i64 a0] rfl z16_ ?_; (with_reducible refine (queue_fits.calls a0 true _ A2.out).mono ?_); rintro e w' ⟨rfl, ⟨nd, rfl⟩⟩; refine ⟨_, rfl, ?_⟩; (try (rw [drewN_self w4]; generalize hq_ : World.drewN w4 _ = w4; have n0_ : Aside0 (w4.heap[gb108]? = some (.cells #[.slice none 0 0, .slice none 0 0, .int .i64 0, .int .i64 0] 68 (0, 0))) := ⟨z24_⟩; have n1_ : Aside0 (Below w.heap.size w w4) := ⟨z25_⟩; clear BK108 HB hq_; have BK108 := n0_; have HB := n1_; clear n0_ n1_)); have hcz5_0 : w4.cell? ⟨gb108, 0, none⟩ = some (.slice none 0 0) := (blk_cell BK108.out 0).trans rfl; have hcz5_1 : w4.cell? ⟨gb108, 1, none⟩ = some (.slice none 0 0) := (blk_cell BK108.out 1).trans rfl; have hcz5_2 : w4.cell? ⟨gb108, 2, none⟩ = some (.int .i64 0) := (blk_cell BK108.out 2).trans rfl; have hcz5_3 : w4.cell? ⟨gb108, 3, none⟩ = some (.int .i64 0) := (blk_cell BK108.out 3).trans rfl; obtain ⟨hfz5_0, hfz5_1, hfz5_2, hfz5_3⟩ := bf4_ BK108.out))
  refine bodyPost_ret (results_ct rfl _ _ gb108 68 #[.slice none 0 0, .slice none 0 0, .int .i64 a0, .int .i64 a0] (0, 0) _ rfl (by (with_reducible repeat (first | refine blk_drewN ?_ _ | refine blk_drew ?_ | refine blk_alloc ?_ _)); refine blk_put (cs := #[.slice none 0 0, .slice none 0 0, .int .i64 a0, .int .i64 0]) ?_ 3 _ rfl; (with_reducible repeat (first | refine blk_drewN ?_ _ | refine blk_drew ?_ | refine blk_alloc ?_ _)); refine blk_put (cs := #[.slice none 0 0, .slice none 0 0, .int .i64 0, .int .i64 0]) ?_ 2 _ rfl; (with_reducible repeat (first | refine blk_drewN ?_ _ | refine blk_drew ?_ | refine blk_alloc ?_ _)); refine blk_put (cs := #[.slice none 0 0, .slice none 0 0, .int .i64 0, .int .i64 0]) ?_ 1 _ rfl; (with_reducible repeat (first | refine blk_drewN ?_ _ | refine blk_drew ?_ | refine blk_alloc ?_ _)); refine blk_put (cs := #[.slice none 0 0, .slice none 0 0, .int .i64 0, .int .i64 0]) ?_ 0 _ rfl; (with_reducible repeat (first | refine blk_drewN ?_ _ | refine blk_drew ?_ | refine blk_alloc ?_ _)); exact BK108.out) Try.underlying68 rfl z6_) rfl ?_
  exact ⟨_, _, z2_, z26_, z27_, z28_⟩
 ·replace c3 := Bool.eq_false_iff.mpr c3
  subst c3
  rw [if_neg (show ¬ (false = true) from z8_)] at H
  simp only [Option.some.injEq, Prod.mk.injEq] at H
  obtain ⟨rfl, rfl, rfl, rfl, rfl⟩ := H
  go_enter Try.func15, Try.ntmps15
  go_wp2_with (first | ((with_reducible refine gate_dst (N := 2) rfl ?_); refine box_event ?hg (N := 2) ?hd (cs := #[.slice none 0 0, .slice none 0 0, .int .i64 0, .int .i64 0]) (t := 68) ?hr ?_; (case hd => rfl); (case hg => rfl); (case hr => exact z11_); intro gb108 hg w6 hbox hb; have n0_ := a0_ (below_step z3_ hb); have n1_ := a0_ (hbox); have n2_ := a0_ ((z12_ : w.heap.size ≤ gb108)); have n3_ := a0_ ((z12_ : w.heap.size ≤ gb108)); clear HB; have HB := n0_; have BK108 := n1_; have GW108 := n2_; have GE108 := n3_; clear n0_ n1_ n2_ n3_; clear hb hbox hg) | ((with_reducible refine gate_callee (f := 47) rfl ?_); refine goesL_ (some 5) rfl rfl Try.func47 z6_ rfl #[.int .i64 a0] rfl z16_ ?_; (with_reducible refine (queue_fits.calls a0 false _ A2.out).mono ?_); rintro e w' ⟨rfl, ⟨nd, rfl⟩⟩; refine ⟨_, rfl, ?_⟩; (try (rw [drewN_self w6]; generalize hq_ : World.drewN w6 _ = w6; have n0_ : Aside0 (w6.heap[gb108]? = some (.cells #[.slice none 0 0, .slice none 0 0, .int .i64 0, .int .i64 0] 68 (0, 0))) := ⟨z24_⟩; have n1_ : Aside0 (Below w.heap.size w w6) := ⟨z25_⟩; clear BK108 HB hq_; have BK108 := n0_; have HB := n1_; clear n0_ n1_)); have hcz7_0 : w6.cell? ⟨gb108, 0, none⟩ = some (.slice none 0 0) := (blk_cell BK108.out 0).trans rfl; have hcz7_1 : w6.cell? ⟨gb108, 1, none⟩ = some (.slice none 0 0) := (blk_cell BK108.out 1).trans rfl; have hcz7_2 : w6.cell? ⟨gb108, 2, none⟩ = some (.int .i64 0) := (blk_cell BK108.out 2).trans rfl; have hcz7_3 : w6.cell? ⟨gb108, 3, none⟩ = some (.int .i64 0) := (blk_cell BK108.out 3).trans rfl; obtain ⟨hfz7_0, hfz7_1, hfz7_2, hfz7_3⟩ := bf4_ BK108.out))
  refine bodyPost_ret (results_ct rfl _ _ gb108 68 #[.slice none 0 0, .slice none 0 0, .int .i64 0, .int .i64 0] (0, 0) _ rfl (by (with_reducible repeat (first | refine blk_drewN ?_ _ | refine blk_drew ?_ | refine blk_alloc ?_ _)); refine blk_put (cs := #[.slice none 0 0, .slice none 0 0, .int .i64 0, .int .i64 0]) ?_ 3 _ rfl; (with_reducible repeat (first | refine blk_drewN ?_ _ | refine blk_drew ?_ | refine blk_alloc ?_ _)); refine blk_put (cs := #[.slice none 0 0, .slice none 0 0, .int .i64 0, .int .i64 0]) ?_ 2 _ rfl; (with_reducible repeat (first | refine blk_drewN ?_ _ | refine blk_drew ?_ | refine blk_alloc ?_ _)); refine blk_put (cs := #[.slice none 0 0, .slice none 0 0, .int .i64 0, .int .i64 0]) ?_ 1 _ rfl; (with_reducible repeat (first | refine blk_drewN ?_ _ | refine blk_drew ?_ | refine blk_alloc ?_ _)); refine blk_put (cs := #[.slice none 0 0, .slice none 0 0, .int .i64 0, .int .i64 0]) ?_ 0 _ rfl; (with_reducible repeat (first | refine blk_drewN ?_ _ | refine blk_drew ?_ | refine blk_alloc ?_ _)); exact BK108.out) Try.underlying68 rfl z6_) rfl ?_
  exact ⟨_, _, z2_, z26_, z27_, z28_⟩
end Go.Proofs.Ytecfndblgefhdaa.R
