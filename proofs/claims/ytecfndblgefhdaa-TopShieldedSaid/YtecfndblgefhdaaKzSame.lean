import Derived.Test.YtecfndblgefhdaaKzRx12
set_option linter.unusedVariables false
set_option linter.unusedSimpArgs false
namespace Go.Proofs.Ytecfndblgefhdaa.R
open Go.RowKit Go.Proofs.YtecfndblgefhdaaW.PrintWords Go.Proofs.YtecfndblgefhdaaW.PrintLast Go.Proofs.YtecfndblgefhdaaW.PrintMore
attribute [local go_sem] max2_int min2_int max_two min_two max_three min_three max_four min_four
theorem same_texts (l : List ByteArray) (hl : l.length ≤ 9223372036854775807) : ∀ (m i k : Nat), l.length - i ≤ m → i ≤ l.length → m < k → slices_Equal_string_string.l0 k l l (l.length : Int) (i : Int) = some true
 | m, i, 0, _, _, hk => by omega
 | m, i, k + 1, hm, hi, hk => by
  rw [slices_Equal_string_string.l0]
  by_cases c : i < l.length
  ·rw [if_pos z7_, if_pos z7_, if_pos z7_, if_pos z7_, if_pos rfl, show wrap64 ((i : Int) + 1) = ((i + 1 : Nat) : Int) by unfold wrap64; omega]
   obtain ⟨m, rfl⟩ : ∃ q, m = q + 1 := ⟨m - 1, z7_⟩
   exact same_texts l hl m (i + 1) k z7_ z7_ z7_
  ·rw [if_neg z7_]
theorem same_vol (x : S137) (hl : x.f1.length ≤ 9223372036854775807) : vols_Same_1.f (x.f1.length + 1) x.f0 x.f1 x.f0 x.f1 = some true := by
 unfold vols_Same_1.f slices_Equal_string_string.f
 rw [if_pos rfl, if_pos rfl]
 have := same_texts x.f1 hl x.f1.length 0 (x.f1.length + 1) z7_ z7_ z7_
 rw [show ((0 : Nat) : Int) = 0 from rfl] at this
 rw [this]
 rfl
theorem sameVol.calls (x : S137) (A0 A1 : Option Addr) (c0 c1 : Nat) (w0 w : World) (h0 : Kd.C Kd.string w A0 x.f1.length x.f1) (hc0 : x.f1.length ≤ c0) (h1 : Kd.C Kd.string w A1 x.f1.length x.f1) (hc1 : x.f1.length ≤ c1) (hb : Below w0.heap.size w0 w) :
  Calls Try.prog 59 #[.agg #[.int .i64 x.f0, .slice A0 x.f1.length c0], .agg #[.int .i64 x.f0, .slice A1 x.f1.length c1]] w fun e w' => e = .returned (.bool true) ∧ Below w0.heap.size w0 w' :=
 (vols_Same_1.calls (x.f1.length + 1) x.f0 A0 c0 x.f1 x.f0 A1 c1 x.f1 true w h0 hc0 h1 hc1 (same_vol x h0.2.1)).mono fun e w' ⟨e1, e2⟩ => ⟨e1, below_step hb e2⟩
set_option maxHeartbeats 4000000 in
set_option maxRecDepth 100000 in
theorem equalVols.calls (A0 A1 : Option Addr) (c0 c1 : Nat) (l : List S137) (w0 w : World) (hr0 : Kd.C k137 w A0 l.length l) (hr1 : Kd.C k137 w A1 l.length l) (hB : Below w0.heap.size w0 w) :
  Calls Try.prog 58 #[.slice A0 l.length c0, .slice A1 l.length c1, .func (.func 59) #[] #[]] w fun e w' => e = .returned (.bool true) ∧ Below w0.heap.size w0 w' := by
 have HR0 := a0_ hr0
 have HR1 := a0_ hr1
 have hmax : l.length ≤ 9223372036854775807 := hr0.2.1
 have HW := a0_ hB
 have HB := a0_ (Below.refl w.heap.size w)
 clear hr0 hr1 hB
 have eg : ∀ args w, (callFunc 59 args).run Try.prog w = .ok (.enter 59 args) w := enters_of Try.func59 z6_ rfl
 go_enter Try.func58, Try.ntmps58
 go_wp2
 go_loopw [7, 8, 9, 17] (fun v7 v8 v9 v17 wr => ∃ (i : Nat), i ≤ l.length ∧ v17 = .int .i64 i ∧ Aside0 (Below w.heap.size w wr)) (fun _ _ _ v17 _ => l.length - (intOf v17).toNat)
 case atStart => exact ⟨0, Nat.zero_le _, rfl, HB⟩
 case round =>
  obtain ⟨i, hi, rfl, HBr⟩ := hrel
  by_cases hlt : i < l.length
  ·have hltz : (i : Int) < (l.length : Int) := by omega
   obtain ⟨ad, A2, c2, e1, x0, x1, y1, hC2⟩ := at_T137 (Kd.C_below HR0.out HBr.out) (i : Int) z7_ z7_
   obtain ⟨ae, A3, c3, e2, z0, z1, y2, hC3⟩ := at_T137 (Kd.C_below HR1.out HBr.out) (i : Int) z7_ z7_
   subst e1
   subst e2
   rw [Int.toNat_natCast] at x0 x1 z0 z1
   generalize rd_T137 l (i : Int) = x at *
   have X2 := a0_ hC2
   have X3 := a0_ hC3
   have Y2 := a0_ y1
   have Y3 := a0_ y2
   clear hC2 hC3 y1 y2
   have hm1 := (World.block_lt_of_cell? wr _ x0)
   have hm2 := (World.block_lt_of_cell? wr _ z0)
   go_upto_region 6 with (((with_reducible refine gate_dst (N := 8) rfl ?_); refine box_event ?hg (N := 8) ?hd (cs := #[.int .i64 0, .slice none 0 0]) (t := 137) ?hr ?_; (case hd => rfl); (case hg => rfl); (case hr => exact z30_); intro gb hg w5 hbox hb; have GE := a0_ (z40_ : wr.heap.size ≤ gb); have HB5 := a0_ hb; have BK := a0_ hbox; clear hb hbox hg; have hcz0 : w5.cell? ⟨gb, 0, none⟩ = some (.int .i64 0) := (blk_cell BK.out 0).trans rfl; have hcz1 : w5.cell? ⟨gb, 1, none⟩ = some (.slice none 0 0) := (blk_cell BK.out 1).trans rfl; have hfz0 := blk_frozen BK.out 0; have hfz1 := blk_frozen BK.out 1))
   clear hcz0 hcz1 hfz0 hfz1
   have B6 := a0_ (blk_put (cs' := #[.int .i64 x.f0, .slice A2 x.f1.length c2]) (blk_put (cs' := #[.int .i64 x.f0, .slice none 0 0]) BK.out 0 _ rfl) 1 _ rfl)
   have HB6 := a0_ (below_set (j := 1) (v := .slice A2 x.f1.length c2) (below_set (j := 0) (v := .int .i64 x.f0) HB5.out GE.out) GE.out)
   generalize World.setCell (World.setCell w5 ⟨gb, 0, none⟩ (.int .i64 x.f0)) ⟨gb, 1, none⟩ (.slice A2 x.f1.length c2) = w7 at B6 HB6 ⊢
   have hu0 := (HB6.out.cell (World.block_lt_of_cell? wr _ z0)).trans z0
   have hu1 := (HB6.out.cell (World.block_lt_of_cell? wr _ z1)).trans z1
   clear HB5 BK
   go_upto_region 7 with (((with_reducible refine gate_dst (N := 9) rfl ?_); refine box_event ?hg (N := 9) ?hd (cs := #[.int .i64 0, .slice none 0 0]) (t := 137) ?hr ?_; (case hd => rfl); (case hg => rfl); (case hr => exact z30_); intro gc hgc w8 hbox hb; have GC := a0_ (by rw [hgc]; exact Nat.le_refl _ : w7.heap.size ≤ gc); have HB8 := a0_ hb; have BK8 := a0_ hbox; clear hb hbox hgc; have hcz0 : w8.cell? ⟨gc, 0, none⟩ = some (.int .i64 0) := (blk_cell BK8.out 0).trans rfl; have hcz1 : w8.cell? ⟨gc, 1, none⟩ = some (.slice none 0 0) := (blk_cell BK8.out 1).trans rfl; have hfz0 := blk_frozen BK8.out 0; have hfz1 := blk_frozen BK8.out 1))
   clear hcz0 hcz1 hfz0 hfz1
   have B9 := a0_ (blk_put (cs' := #[.int .i64 x.f0, .slice A3 x.f1.length c3]) (blk_put (cs' := #[.int .i64 x.f0, .slice none 0 0]) BK8.out 0 _ rfl) 1 _ rfl)
   have HB9 := a0_ (below_set (j := 1) (v := .slice A3 x.f1.length c3) (below_set (j := 0) (v := .int .i64 x.f0) HB8.out GC.out) GC.out)
   generalize World.setCell (World.setCell w8 ⟨gc, 0, none⟩ (.int .i64 x.f0)) ⟨gc, 1, none⟩ (.slice A3 x.f1.length c3) = w9 at B9 HB9 ⊢
   have HBw := a0_ (below_step HB6.out HB9.out)
   have hy0 : w9.cell? ⟨gb, 0, none⟩ = some (.int .i64 x.f0) := (blk_cell (blk_below B6.out HB9.out) 0).trans rfl
   have hy1 : w9.cell? ⟨gb, 1, none⟩ = some (.slice A2 x.f1.length c2) := (blk_cell (blk_below B6.out HB9.out) 1).trans rfl
   have hx0 : w9.cell? ⟨gc, 0, none⟩ = some (.int .i64 x.f0) := (blk_cell B9.out 0).trans rfl
   have hx1 : w9.cell? ⟨gc, 1, none⟩ = some (.slice A3 x.f1.length c3) := (blk_cell B9.out 1).trans rfl
   clear BK8 HB8 hu0 hu1
   go_wp2_with (go_at_fn 59; refine (sameVol.calls x A2 A3 c2 c3 wr w9 (Kd.C_below X2.out HBw.out) Y2.out (Kd.C_below X3.out HBw.out) Y3.out HBw.out).mono ?_; rintro e w10 ⟨rfl, hb10⟩; have HB10 := a0_ hb10; clear hb10)
   go_roundw
   case measure => simp [intOf]; omega
   case rel => exact ⟨i + 1, z7_, z9_, ⟨below_step HBr.out HB10.out⟩⟩
  ·obtain rfl : i = l.length := by omega
   go_wp2
   go_ret
   exact ⟨rfl, below_step HW.out HBr.out⟩
set_option maxHeartbeats 4000000 in
set_option maxRecDepth 100000 in
theorem vols_Same.calls (k : Nat) (A0 A1 : Option Addr) (c0 c1 : Nat) (l : List S137) (w0 w : World) (hr0 : Kd.C k137 w A0 l.length l) (hc0 : l.length ≤ c0) (hr1 : Kd.C k137 w A1 l.length l) (hc1 : l.length ≤ c1) (hB : Below w0.heap.size w0 w) (h : vols_Right.f k l = some true) :
  Calls Try.prog 22 #[.slice A0 l.length c0, .slice A1 l.length c1] w fun e w' => e = .returned (.bool true) ∧ Below w0.heap.size w0 w' := by
 have HR0 := a0_ hr0
 have HR1 := a0_ hr1
 have HC0 := a0_ hc0
 have HC1 := a0_ hc1
 have HB := a0_ hB
 have HT := a0_ h
 clear hr0 hr1 hc0 hc1 hB h
 have eg : ∀ args w, (callFunc 44 args).run Try.prog w = .ok (.enter 44 args) w := enters_of Try.func44 z6_ rfl
 have eg2 : ∀ args w, (callFunc 58 args).run Try.prog w = .ok (.enter 58 args) w := enters_of Try.func58 z6_ rfl
 go_enter Try.func22, Try.ntmps22
 go_wp2_with fail
 refine (vols_Right.calls k A0 c0 l true w HR0.out HC0.out HT.out).mono ?_
 rintro e w1 ⟨rfl, hb1⟩
 have HB1 := a0_ hb1
 clear hb1
 go_wp2_with fail
 refine (vols_Right.calls k A1 c1 l true w1 (Kd.C_below HR1.out HB1.out) HC1.out HT.out).mono ?_
 rintro e w2 ⟨rfl, hb2⟩
 have HB2 := a0_ (below_step HB1.out hb2)
 clear hb2
 go_wp2_with fail
 refine (equalVols.calls A0 A1 c0 c1 l w w2 (Kd.C_below HR0.out HB2.out) (Kd.C_below HR1.out HB2.out) HB2.out).mono ?_
 rintro e w3 ⟨rfl, hb3⟩
 have HB3 := a0_ (below_step HB.out hb3)
 clear hb3
 go_wp2
 go_ret
 exact ⟨rfl, HB3.out⟩
end Go.Proofs.Ytecfndblgefhdaa.R
