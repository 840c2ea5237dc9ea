import Derived.Test.YtecfndblgefhdaaKcPx3
import Derived.Test.YtecfndblgefhdaaKcPx7
namespace Go.Proofs.Ytecfndblgefhdaa.P
open Go.RowKit Go.Proofs.YtecfndblgefhdaaW.PrintWords Go.Proofs.YtecfndblgefhdaaW.PrintLast Go.Proofs.YtecfndblgefhdaaW.PrintMore
attribute [local go_sem] max2_int min2_int max_two min_two max_three min_three max_four min_four
set_option linter.unusedVariables false
set_option linter.unusedSimpArgs false
def octet_Text.f (k : Nat) (a0 : ByteArray) : Option (ByteArray × Int) := if (a0.size : Int) > 65535 then (some ((⟨#[]⟩ : ByteArray), 5)) else ((octet_Put.f k (a0.size : Int) 2).bind fun bt197 => (if bt197.1.size + a0.size ≤ 9223372036854775807 then (some (bt197.1 ++ a0, 0)) else (none)))
set_option maxHeartbeats 8000000 in
set_option maxRecDepth 100000 in
theorem octet_Text.calls (k : Nat) (a0 : ByteArray) (r1 : ByteArray) (r2 : Int) (w : World) (h : octet_Text.f k a0 = some (r1, r2)) :
  Calls Try.prog 81 #[.string a0] w fun e w' => e = .returned (.tuple #[.string r1, .int .i64 r2]) ∧ Below w.heap.size w w' := by
 have HB := a0_ (Below.refl w.heap.size w)
 have H : (if (a0.size : Int) > 65535 then (some ((⟨#[]⟩ : ByteArray), 5)) else ((octet_Put.f k (a0.size : Int) 2).bind fun bt197 => (if bt197.1.size + a0.size ≤ 9223372036854775807 then (some (bt197.1 ++ a0, 0)) else (none)))) = some (r1, r2) := h
 clear h
 by_cases c2 : (a0.size : Int) > 65535
 ·rw [if_pos c2] at H
  have c2b0 : decide (65535 < (a0.size : Int)) = true := decide_eq_true c2
  have c2b1 : decide (65535 < a0.size) = true := decide_eq_true z2_
  clear c2
  simp only [Option.some.injEq, Prod.mk.injEq] at H
  obtain ⟨rfl, rfl⟩ := H
  go_enter Try.func81, Try.ntmps81
  go_wp2
  go_ret2
  exact ⟨z3_, z6_⟩
 ·rw [if_neg c2] at H
  have c2b0 : decide (65535 < (a0.size : Int)) = false := decide_eq_false c2
  have c2b1 : decide (65535 < a0.size) = false := decide_eq_false z2_
  clear c2
  replace H := Option.bind_eq_some_iff.mp H
  obtain ⟨⟨t197, t198⟩, A30, H⟩ := H
  try dsimp only at H
  have A3 := a0_ A30
  clear A30
  by_cases c4 : t197.size + a0.size ≤ 9223372036854775807
  ·rw [if_pos c4] at H
   have c4b0 := eq_true c4
   have c4b1 : decide (t197.size + a0.size ≤ 9223372036854775807) = true := decide_eq_true c4
   try have c4b2 : (9223372036854775807 < t197.size + a0.size) = False := eq_false (Nat.not_lt.2 c4)
   simp only [Option.some.injEq, Prod.mk.injEq] at H
   obtain ⟨rfl, rfl⟩ := H
   go_enter Try.func81, Try.ntmps81
   go_wp2_with (first | ((with_reducible refine gate_callee (f := 80) rfl ?_); refine goesL_ (some 12) rfl rfl Try.func80 z11_ rfl #[.int .i64 (a0.size : Int), .int .i64 2] rfl z12_ ?_; (with_reducible refine (octet_Put.calls k (a0.size : Int) 2 t197 t198 _ A3.out).mono ?_); rintro e w5 ⟨rfl, hb⟩; refine ⟨_, rfl, ?_⟩; replace HB := a0_ (below_step z6_ hb); (try clear hb); (try clear hb2); (try clear hk); (try clear hi)))
   go_ret2
   exact ⟨z3_, z6_⟩
  ·rw [if_neg c4] at H
   exact absurd H (by simp)
open Go.Proofs.Ytecfndblgefhdaa.Conv
theorem infoU8w : (Try.prog.info? 5).map (fun i => (i.zero, i.size, i.bytes)) = some (some (.int .u8 0), 1, 1) := by kernel_rfl
theorem gives_two {P : Program} (W : World) (t : TypeId) (x y : Int) : Gives P (W.alloc (.cells #[.int .u8 x, .int .u8 y] t)) (.slice (some ⟨W.heap.size, 0, none⟩) 2 2) [x, y] :=
 gives_cells W.heap.size 2 [x, y] (fun j z hj => by
  rw [blk_cell (blk_new W _) j]
  match j, hj with
  | 0, hj => exact congrArg (fun y => some (Value.int .u8 y)) (Option.some.inj hj)
  | 1, hj => exact congrArg (fun y => some (Value.int .u8 y)) (Option.some.inj hj))
theorem own_either {v v' : Value} {n b : Nat} (h : v'.ownBlock = v.ownBlock ∨ v'.ownBlock = some n) (h1 : ∀ k, v.ownBlock = some k → b ≤ k) (h2 : b ≤ n) : ∀ k, v'.ownBlock = some k → b ≤ k := fun k hk => by
 rcases h with h | h
 ·exact h1 k (h.symm.trans hk)
 ·rw [h] at hk
  injection hk with hk
  omega
def msg_PutWrites.go (k : Nat) : List S120 → List Int → Option (ByteArray × Int)
 | [], cur => some (strOfNums cur, 0)
 | s :: r, cur => (octet_Text.f k s.f2).bind fun b => if cur.length + 2 + b.1.size ≤ 140737488355328 then msg_PutWrites.go k r (cur ++ [s.f0 % 256, s.f1 % 256] ++ bytesOf b.1) else none
def msg_PutWrites.f (k : Nat) (l0 : List S120) : Option (ByteArray × Int) :=
 (msg_writable.f k l0).bind fun b => if b = true then (octet_Put.f k (l0.length : Int) 2).bind fun p => if p.1.size ≤ 140737488351232 then msg_PutWrites.go k l0 (bytesOf p.1) else none else some ((⟨#[]⟩ : ByteArray), 1)
set_option maxHeartbeats 1000000 in
set_option maxRecDepth 100000 in
theorem msg_PutWrites.calls (k : Nat) (A0 : Option Addr) (c0 : Nat) (l0 : List S120) (r1 : ByteArray) (r2 : Int) (w : World) (hr0 : Kd.C k120 w A0 l0.length l0) (hc0 : l0.length ≤ c0) (h : msg_PutWrites.f k l0 = some (r1, r2)) :
  Calls Try.prog 40 #[.slice A0 l0.length c0] w fun e w' => e = .returned (.tuple #[.string r1, .int .i64 r2]) ∧ Below w.heap.size w w' := by
 have HR0 := a0_ hr0
 have HC0 := a0_ hc0
 have hmax : l0.length ≤ 9223372036854775807 := hr0.2.1
 clear hr0 hc0
 have HB := a0_ (Below.refl w.heap.size w)
 unfold msg_PutWrites.f at h
 obtain ⟨b, hb, h1⟩ := Option.bind_eq_some_iff.1 h
 clear h
 have HW := a0_ hb
 clear hb
 cases b with
 | false =>
  rw [if_neg z17_] at h1
  simp only [Option.some.injEq, Prod.mk.injEq] at h1
  obtain ⟨rfl, rfl⟩ := h1
  go_enter Try.func40, Try.ntmps40
  go_wp2_with (go_at_call 76; (with_reducible refine (msg_writable.calls k A0 c0 l0 false _ HR0.out HC0.out HW.out).mono ?_); rintro e w1 ⟨rfl, hb⟩; have HB1 := a0_ (below_step HB.out hb); clear hb)
  go_ret2
  exact ⟨rfl, HB1.out⟩
 | true =>
  rw [if_pos rfl] at h1
  obtain ⟨⟨t, e⟩, hp, h⟩ := Option.bind_eq_some_iff.1 h1
  clear h1
  simp only at h
  by_cases hz : t.size ≤ 140737488351232
  ·rw [if_pos hz] at h
   have HP := a0_ hp
   have HZ := a0_ hz
   have H := a0_ h
   clear hp hz h
   go_enter Try.func40, Try.ntmps40
   go_wp2_with (go_at_call 76; (with_reducible refine (msg_writable.calls k A0 c0 l0 true _ HR0.out HC0.out HW.out).mono ?_); rintro e w0 ⟨rfl, hb⟩; have HB0 := a0_ (below_step HB.out hb); clear hb)
   (with_reducible refine (octet_Put.calls k _ 2 t e _ HP.out).mono ?_)
   rintro e1 w1 ⟨rfl, hb⟩
   have HB1 := a0_ (below_step HB0.out hb)
   clear hb HB HB0
   have hconv := Lib.run_convert_string_bytes w1 9 111 5 t Try.underlying9 Try.underlying111 Try.underlying5
   have HR := a0_ (CRow.of_conv (e := 5) w1 w.heap.size t HB1.out.size (by have := HZ.out; simp only [maxLen]; omega))
   have HB2 := a0_ (bytes_below HB1.out HB1.out.size 5 t)
   generalize Lib.bytesWorld w1 5 t = W1 at *
   generalize grownCap w1 t.size 0 5 = cp at *
   go_wp2
   go_loopw [6, 24] (fun v6 v24 w' => ∃ (i : Nat) (cur : List Int), i ≤ l0.length ∧ v24 = .int .i64 i ∧ Aside0 (msg_PutWrites.go k (l0.drop i) cur = some (r1, r2)) ∧ Aside0 (CRow 5 w' w.heap.size v6 cur) ∧ Aside0 (Below w.heap.size w w')) (fun _ v24 _ => l0.length - (intOf v24).toNat)
   case atStart => exact ⟨0, bytesOf t, Nat.zero_le _, rfl, H, HR, HB2⟩
   case round =>
    clear H HR HB2 hconv HB1
    obtain ⟨i, cur, hi, rfl, H, HR, HB2⟩ := hrel
    by_cases hlt : i < l0.length
    ·have h := H.out
     rw [List.drop_eq_getElem_cons hlt] at h
     simp only [msg_PutWrites.go] at h
     replace h := Option.bind_eq_some_iff.1 h
     obtain ⟨⟨u, e2⟩, hu, h⟩ := h
     simp only at h
     obtain ⟨ad, hA, z0, z1, z2⟩ := at_T120 HR0.out (i : Int) z2_ z2_
     subst hA
     have hs : rd_T120 l0 (i : Int) = l0[i] := by
      unfold rd_T120
      rw [Int.toNat_natCast, List.getD_eq_getElem?_getD, List.getElem?_eq_getElem hlt]
      rfl
     rw [hs] at z0 z1 z2
     replace z0 := (HB2.out.cell (World.block_lt_of_cell? w _ z0)).trans z0
     replace z1 := (HB2.out.cell (World.block_lt_of_cell? w _ z1)).trans z1
     replace z2 := (HB2.out.cell (World.block_lt_of_cell? w _ z2)).trans z2
     rw [Int.toNat_natCast] at z0 z1 z2
     have HU := a0_ hu
     have hi0 : 0 ≤ (i : Int) := by omega
     have hi1 : (i : Int) < (l0.length : Int) := by omega
     have HS := a0_ hs
     clear hu hs H
     by_cases hlim : cur.length + 2 + u.size ≤ 140737488355328
     ·rw [if_pos hlim] at h
      have H := a0_ h
      have HM := a0_ hlim
      clear h hlim
      generalize l0[i] = s at *
      go_upto_region 8 with (fail)
      have BG := a0_ (blk_new wr (.cells #[.int .i64 s.f0, .int .i64 s.f1, .string s.f2] 120))
      have HB3 := a0_ (below_alloc HB2.out (.cells #[.int .i64 s.f0, .int .i64 s.f1, .string s.f2] 120))
      have HR3 := a0_ (HR.out.alloc (.cells #[.int .i64 s.f0, .int .i64 s.f1, .string s.f2] 120))
      have hown := HR.out.some_block
      obtain ⟨g1, hg1, hg2, hg3⟩ := hown
      obtain ⟨g, hg⟩ : ∃ g, g = wr.heap.size := ⟨_, rfl⟩
      have HNE : Aside0 (u6.ownBlock ≠ some g) := ⟨by rw [hg1, hg]; intro e; injection e with e; omega⟩
      have HNB : Aside0 (∀ k, some k = u6.ownBlock → w.heap.size ≤ k) := ⟨fun k hk => by rw [hg1] at hk; injection hk with hk; rw [hk]; exact hg2⟩
      rw [← hg] at BG ⊢
      clear hg hg1 hg2 hg3 HR HB2 z0 z1 z2
      generalize wr.alloc (.cells #[.int .i64 s.f0, .int .i64 s.f1, .string s.f2] 120) = w4 at BG HB3 HR3 ⊢
      have y2 := blk_cell BG.out 2
      go_upto_region 9 with (go_at_call 81; (with_reducible refine (octet_Text.calls k s.f2 u e2 _ HU.out).mono ?_); rintro e3 w5 ⟨rfl, hb⟩; have HB4 := a0_ (below_step HB3.out hb); have HR4 := a0_ (HR3.out.below hb); have BG5 := a0_ (blk_below BG.out hb); clear hb BG HR3 HB3 y2; have BG := BG5; clear BG5)
      have y0 := blk_cell BG.out 0
      have y1 := blk_cell BG.out 1
      go_wp2_with (first | (at_builtin; refine wpList_append_crow (v := u6) rfl (.tmp 34) (.tmp 41) 111 111 rfl Try.underlying111 Try.underlying111 (.inr rfl) infoU8w rfl (HR4.out.alloc _) _ rfl [s.f0 % 256, s.f1 % 256] ?c8g ?c8l ?c8b ?_; (case c8g => exact gives_two w5 _ _ _); (case c8l => have := HM.out; show cur.length + 2 ≤ _; omega); (case c8b => exact Nat.le_trans HB4.out.size (by simp)); intro v8 w8 hr8 hg8 ha8; have HR8 := a0_ hr8; have HB8 := a0_ (pw_below_grown (below_alloc HB4.out _) _ (Nat.le_trans HB4.out.size (by simp)) hg8 (fun k hk => HNB.out k hk.symm)); have HL8 : Aside0 (∀ k, v8.ownBlock = some k → w.heap.size ≤ k) := ⟨own_either ha8 (fun k hk => HNB.out k hk.symm) (Nat.le_trans HB4.out.size (by simp))⟩; clear hr8 hg8 ha8) | (at_builtin; refine wpList_append_crow rfl (.tmp 42) (.tmp 43) 111 9 rfl Try.underlying111 Try.underlying9 (.inl rfl) infoU8w rfl HR8.out (.string u) rfl (bytesOf u) (gives_string u) ?c9l ?c9b ?_; (case c9l => have := HM.out; rw [bytesOf_length, List.length_append]; show cur.length + 2 + u.size ≤ _; omega); (case c9b => exact HB8.out.size); intro v9 w9 hr9 hg9 _; have HR9 := a0_ hr9; have HB9 := a0_ (pw_below_grown HB8.out _ HB8.out.size hg9 HL8.out); clear hr9 hg9))
      go_roundw
      case measure => simp [intOf]; omega
      case rel => exact ⟨i + 1, _, z2_, z30_, H, HR9, HB9⟩
     ·rw [if_neg hlim] at h; cases h
    ·obtain rfl : i = l0.length := by omega
     have h := H.out
     rw [List.drop_length] at h
     simp only [msg_PutWrites.go, Option.some.injEq, Prod.mk.injEq] at h
     obtain ⟨rfl, rfl⟩ := h
     have hback := HR.out.text (P := Try.prog) Try.underlying111 Try.underlying5 Try.underlying9
     clear H HR
     go_wp2
     go_ret2
     exact ⟨rfl, HB2.out⟩
  ·rw [if_neg hz] at h; cases h
end Go.Proofs.Ytecfndblgefhdaa.P
