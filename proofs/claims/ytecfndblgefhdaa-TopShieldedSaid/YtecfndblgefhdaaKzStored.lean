import Derived.Test.YtecfndblgefhdaaKzRx12
import Derived.Test.YtecfndblgefhdaaKzAddNil
set_option linter.unusedVariables false
set_option linter.unusedSimpArgs false
namespace Go.Proofs.Ytecfndblgefhdaa.R
open Go.RowKit Go.Proofs.YtecfndblgefhdaaW.PrintWords Go.Proofs.YtecfndblgefhdaaW.PrintLast Go.Proofs.YtecfndblgefhdaaW.PrintMore
attribute [local go_sem] max2_int min2_int max_two min_two max_three min_three max_four min_four
def wrA : S120 := ⟨1, 0, ⟨#[97]⟩⟩
def volA : S137 := ⟨1, [⟨#[97]⟩, ⟨#[]⟩]⟩
theorem st1 : queue_Right.f 60 [] [] 0 0 = some true := by kernel_rfl
theorem st2 : queue_clone.f 60 [] [] 0 0 = some ([], [], 0, 0) := by kernel_rfl
theorem st3 : fold_Merge.f 60 [] [wrA] = some [wrA] := by kernel_rfl
theorem st4 : queue_All.f 60 [] [wrA] 0 1 = some [wrA] := by kernel_rfl
theorem st5 : vols_Apply.f 60 [emptyVol] [wrA] = some ([volA], 0) := by kernel_rfl
theorem st6 : vols_Get.f 60 [volA] 1 0 = some (⟨#[97]⟩, 0) := by kernel_rfl
theorem st7 : lag_Judge.f 60 1 9 true [] [wrA] 0 1 [] = some 2 := by kernel_rfl
theorem st8 : queue_New.f 0 = some ([], [], 0, 0, 0) := by kernel_rfl
theorem C_empty {α : Type} (d : Kd α) (w : World) (A : Option Addr) : d.C w A ([] : List α).length [] := ⟨rfl, by simp, fun h => absurd h (Nat.lt_irrefl 0)⟩
set_option maxHeartbeats 4000000 in
set_option maxRecDepth 100000 in
theorem stored.calls (w : World) : Calls Try.prog 14 #[] w fun e w' => e = .returned (.bool true) ∧ Below w.heap.size w w' := by
 have HB := a0_ (Below.refl w.heap.size w)
 have eg0 : ∀ args w, (callFunc 45 args).run Try.prog w = .ok (.enter 45 args) w := enters_of Try.func45 z6_ rfl
 have eg1 : ∀ args w, (callFunc 15 args).run Try.prog w = .ok (.enter 15 args) w := enters_of Try.func15 z6_ rfl
 have eg2 : ∀ args w, (callFunc 18 args).run Try.prog w = .ok (.enter 18 args) w := enters_of Try.func18 z6_ rfl
 have eg3 : ∀ args w, (callFunc 23 args).run Try.prog w = .ok (.enter 23 args) w := enters_of Try.func23 z6_ rfl
 have eg4 : ∀ args w, (callFunc 16 args).run Try.prog w = .ok (.enter 16 args) w := enters_of Try.func16 z6_ rfl
 have eg5 : ∀ args w, (callFunc 46 args).run Try.prog w = .ok (.enter 46 args) w := enters_of Try.func46 z6_ rfl
 have eg6 : ∀ args w, (callFunc 17 args).run Try.prog w = .ok (.enter 17 args) w := enters_of Try.func17 z6_ rfl
 go_enter Try.func14, Try.ntmps14
 go_upto_region 2 with (go_at_fn 45; refine (addNil.calls _).mono ?_; rintro e wa ⟨va, rfl, hva, hb⟩; obtain ⟨Av, cv, rfl, hcv, hCv⟩ := hva; have HV := a0_ hCv; have HVL := a0_ hcv; replace HB := a0_ (below_step HB.out hb); clear hb hcv hCv)
 go_upto_region 3 with (first | (go_at_fn 15; refine (queue_New.calls 0 [] [] 0 0 0 _ st8).mono ?_; rintro e wn ⟨v0, v1, rfl, h0, h1, hb⟩; obtain ⟨B0, d0, rfl⟩ := Kd.S_slice h0; obtain ⟨B1, d1, rfl⟩ := Kd.R_slice h1; replace HV := a0_ (Kd.C_below HV.out hb); replace HB := a0_ (below_step HB.out hb); clear hb h0 h1) | ((with_reducible refine gate_dst (N := 3) rfl ?_); refine box_event ?hg (N := 3) ?hd (cs := #[.slice none 0 0, .slice none 0 0, .int .i64 0, .int .i64 0]) (t := 68) ?hr ?_; (case hd => rfl); (case hg => rfl); (case hr => exact z30_); intro gq hg w1_ hbox hb; have GEgq := a0_ (z163_ : w.heap.size ≤ gq); have BKgq := a0_ hbox; replace HB := a0_ (below_step HB.out hb); replace HV := a0_ (Kd.F_below (Kd.F_mono (ok' := fun k => k ≠ gq) (Kd.C_F k137_heap HV.out) (fun k hk => z7_)) hb); clear hb hbox hg; have hcgq_0 : w1_.cell? ⟨gq, 0, none⟩ = some (.slice none 0 0) := (blk_cell BKgq.out 0).trans rfl; have hfgq_0 := blk_frozen BKgq.out 0; have hcgq_1 : w1_.cell? ⟨gq, 1, none⟩ = some (.slice none 0 0) := (blk_cell BKgq.out 1).trans rfl; have hfgq_1 := blk_frozen BKgq.out 1; have hcgq_2 : w1_.cell? ⟨gq, 2, none⟩ = some (.int .i64 0) := (blk_cell BKgq.out 2).trans rfl; have hfgq_2 := blk_frozen BKgq.out 2; have hcgq_3 : w1_.cell? ⟨gq, 3, none⟩ = some (.int .i64 0) := (blk_cell BKgq.out 3).trans rfl; have hfgq_3 := blk_frozen BKgq.out 3))
 clear hcgq_0 hfgq_0 hcgq_1 hfgq_1 hcgq_2 hfgq_2 hcgq_3 hfgq_3
 have HVn := a0_ HV.out
 clear HV
 have HVm := a0_ (Kd.F_far (p := ⟨gq, 3, none⟩) (Kd.F_far (p := ⟨gq, 2, none⟩) (Kd.F_far (p := ⟨gq, 1, none⟩) (Kd.F_far (p := ⟨gq, 0, none⟩) HVn.out (fun k hk => hk) (.slice B0 0 d0)) (fun k hk => hk) (.slice B1 0 d1)) (fun k hk => hk) (.int .i64 0)) (fun k hk => hk) (.int .i64 0))
 clear HVn
 have nBKgq := a0_ (blk_put (cs' := #[.slice B0 0 d0, .slice B1 0 d1, .int .i64 0, .int .i64 0]) (blk_put (cs' := #[.slice B0 0 d0, .slice B1 0 d1, .int .i64 0, .int .i64 0]) (blk_put (cs' := #[.slice B0 0 d0, .slice B1 0 d1, .int .i64 0, .int .i64 0]) (blk_put (cs' := #[.slice B0 0 d0, .slice none 0 0, .int .i64 0, .int .i64 0]) BKgq.out 0 _ rfl) 1 _ rfl) 2 _ rfl) 3 _ rfl)
 have nHB := a0_ (below_set (j := 3) (v := .int .i64 0) (below_set (j := 2) (v := .int .i64 0) (below_set (j := 1) (v := .slice B1 0 d1) (below_set (j := 0) (v := .slice B0 0 d0) HB.out GEgq.out) GEgq.out) GEgq.out) GEgq.out)
 clear BKgq HB
 generalize (World.setCell (World.setCell (World.setCell (World.setCell w1_ ⟨gq, 0, none⟩ (.slice B0 0 d0)) ⟨gq, 1, none⟩ (.slice B1 0 d1)) ⟨gq, 2, none⟩ (.int .i64 0)) ⟨gq, 3, none⟩ (.int .i64 0)) = w2_ at nBKgq nHB HVm ⊢
 have BKgq := a0_ nBKgq.out
 have HB := a0_ nHB.out
 clear nBKgq nHB
 have HVn := a0_ HVm.out
 clear HVm
 have hcgq_0 : w2_.cell? ⟨gq, 0, none⟩ = some (.slice B0 0 d0) := (blk_cell BKgq.out 0).trans rfl
 have hfgq_0 := blk_frozen BKgq.out 0
 have hcgq_1 : w2_.cell? ⟨gq, 1, none⟩ = some (.slice B1 0 d1) := (blk_cell BKgq.out 1).trans rfl
 have hfgq_1 := blk_frozen BKgq.out 1
 have hcgq_2 : w2_.cell? ⟨gq, 2, none⟩ = some (.int .i64 0) := (blk_cell BKgq.out 2).trans rfl
 have hfgq_2 := blk_frozen BKgq.out 2
 have hcgq_3 : w2_.cell? ⟨gq, 3, none⟩ = some (.int .i64 0) := (blk_cell BKgq.out 3).trans rfl
 have hfgq_3 := blk_frozen BKgq.out 3
 go_upto_region 4 with (first | ((with_reducible refine gate_dst (N := 21) rfl ?_); refine Kd.R_lit k120 (w0 := w2_) w2_.heap.size 120 ?hg (N := 21) ?hd (xs := [wrA]) (inner := [.int .i64 1, .int .i64 0, .string ⟨#[97]⟩]) (ok := fun _ => True) (okp := fun _ => True) ?hr (Reps.snoc (Reps.none _ _) (k120_mkM _ _ _ wrA) rfl) (fun _ hk => hk) trivial (Below.refl _ _) (Nat.le_refl _) z8_ ?_; (case hd => rfl); (case hg => rfl); (case hr => exact z30_); intro v5 w5 ho5 hb hg_ hnew_; obtain ⟨A5, c5, rfl, hc5, hC5⟩ := Kd.R_reads ho5; have HW := a0_ hC5; have HWL := a0_ hc5; clear hg_ hnew_ ho5 hC5 hc5; clear hcgq_0 hfgq_0 hcgq_1 hfgq_1 hcgq_2 hfgq_2 hcgq_3 hfgq_3; replace BKgq := a0_ (blk_below BKgq.out hb); replace HVn := a0_ (Kd.F_below HVn.out hb); replace HB := a0_ (below_step HB.out hb); have hcgq_0 : w5.cell? ⟨gq, 0, none⟩ = some (.slice B0 0 d0) := (blk_cell BKgq.out 0).trans rfl; have hfgq_0 := blk_frozen BKgq.out 0; have hcgq_1 : w5.cell? ⟨gq, 1, none⟩ = some (.slice B1 0 d1) := (blk_cell BKgq.out 1).trans rfl; have hfgq_1 := blk_frozen BKgq.out 1; have hcgq_2 : w5.cell? ⟨gq, 2, none⟩ = some (.int .i64 0) := (blk_cell BKgq.out 2).trans rfl; have hfgq_2 := blk_frozen BKgq.out 2; have hcgq_3 : w5.cell? ⟨gq, 3, none⟩ = some (.int .i64 0) := (blk_cell BKgq.out 3).trans rfl; have hfgq_3 := blk_frozen BKgq.out 3; clear hb) | (go_at_fn 18; refine (qAdd.calls 60 B0 d0 [] B1 d1 [] 0 0 A5 c5 [wrA] [wrA] _ (C_empty _ _ _) (Nat.zero_le _) (C_empty _ _ _) (Nat.zero_le _) HW.out HWL.out st1 st2 ⟨z8_, z8_⟩ st3).mono ?_; rintro e w6 ⟨v0, v1, rfl, h0, h1, hb⟩; obtain ⟨E0, g0, rfl, _, _⟩ := h0; obtain ⟨E1, g1, rfl, hg1, hF1⟩ := h1; have Lq := blk_lt BKgq.out; have HO := a0_ (Kd.F_mono (ok' := fun k => k ≠ gq) hF1 (fun k hk => z7_)); have HOL := a0_ hg1; clear Lq hF1 hg1; clear hcgq_0 hfgq_0 hcgq_1 hfgq_1 hcgq_2 hfgq_2 hcgq_3 hfgq_3; replace BKgq := a0_ (blk_below BKgq.out hb); replace HVn := a0_ (Kd.F_below HVn.out hb); replace HB := a0_ (below_step HB.out hb); have hcgq_0 : w6.cell? ⟨gq, 0, none⟩ = some (.slice B0 0 d0) := (blk_cell BKgq.out 0).trans rfl; have hfgq_0 := blk_frozen BKgq.out 0; have hcgq_1 : w6.cell? ⟨gq, 1, none⟩ = some (.slice B1 0 d1) := (blk_cell BKgq.out 1).trans rfl; have hfgq_1 := blk_frozen BKgq.out 1; have hcgq_2 : w6.cell? ⟨gq, 2, none⟩ = some (.int .i64 0) := (blk_cell BKgq.out 2).trans rfl; have hfgq_2 := blk_frozen BKgq.out 2; have hcgq_3 : w6.cell? ⟨gq, 3, none⟩ = some (.int .i64 0) := (blk_cell BKgq.out 3).trans rfl; have hfgq_3 := blk_frozen BKgq.out 3; clear hb))
 clear hcgq_0 hfgq_0 hcgq_1 hfgq_1 hcgq_2 hfgq_2 hcgq_3 hfgq_3
 have HVnm := a0_ (Kd.F_far (p := ⟨gq, 3, none⟩) (Kd.F_far (p := ⟨gq, 2, none⟩) (Kd.F_far (p := ⟨gq, 1, none⟩) (Kd.F_far (p := ⟨gq, 0, none⟩) HVn.out (fun k hk => hk) (.slice E0 0 g0)) (fun k hk => hk) (.slice E1 1 g1)) (fun k hk => hk) (.int .i64 0)) (fun k hk => hk) (.int .i64 1))
 clear HVn
 have HOm := a0_ (Kd.F_far (p := ⟨gq, 3, none⟩) (Kd.F_far (p := ⟨gq, 2, none⟩) (Kd.F_far (p := ⟨gq, 1, none⟩) (Kd.F_far (p := ⟨gq, 0, none⟩) HO.out (fun k hk => hk) (.slice E0 0 g0)) (fun k hk => hk) (.slice E1 1 g1)) (fun k hk => hk) (.int .i64 0)) (fun k hk => hk) (.int .i64 1))
 clear HO
 have nBKgq := a0_ (blk_put (cs' := #[.slice E0 0 g0, .slice E1 1 g1, .int .i64 0, .int .i64 1]) (blk_put (cs' := #[.slice E0 0 g0, .slice E1 1 g1, .int .i64 0, .int .i64 0]) (blk_put (cs' := #[.slice E0 0 g0, .slice E1 1 g1, .int .i64 0, .int .i64 0]) (blk_put (cs' := #[.slice E0 0 g0, .slice B1 0 d1, .int .i64 0, .int .i64 0]) BKgq.out 0 _ rfl) 1 _ rfl) 2 _ rfl) 3 _ rfl)
 have nHB := a0_ (below_set (j := 3) (v := .int .i64 1) (below_set (j := 2) (v := .int .i64 0) (below_set (j := 1) (v := .slice E1 1 g1) (below_set (j := 0) (v := .slice E0 0 g0) HB.out GEgq.out) GEgq.out) GEgq.out) GEgq.out)
 clear BKgq HB
 generalize (World.setCell (World.setCell (World.setCell (World.setCell w6 ⟨gq, 0, none⟩ (.slice E0 0 g0)) ⟨gq, 1, none⟩ (.slice E1 1 g1)) ⟨gq, 2, none⟩ (.int .i64 0)) ⟨gq, 3, none⟩ (.int .i64 1)) = w3_ at nBKgq nHB HVnm HOm ⊢
 have BKgq := a0_ nBKgq.out
 have HB := a0_ nHB.out
 clear nBKgq nHB
 have HVn := a0_ HVnm.out
 have HO := a0_ HOm.out
 clear HVnm HOm
 have hcgq_0 : w3_.cell? ⟨gq, 0, none⟩ = some (.slice E0 0 g0) := (blk_cell BKgq.out 0).trans rfl
 have hfgq_0 := blk_frozen BKgq.out 0
 have hcgq_1 : w3_.cell? ⟨gq, 1, none⟩ = some (.slice E1 1 g1) := (blk_cell BKgq.out 1).trans rfl
 have hfgq_1 := blk_frozen BKgq.out 1
 have hcgq_2 : w3_.cell? ⟨gq, 2, none⟩ = some (.int .i64 0) := (blk_cell BKgq.out 2).trans rfl
 have hfgq_2 := blk_frozen BKgq.out 2
 have hcgq_3 : w3_.cell? ⟨gq, 3, none⟩ = some (.int .i64 1) := (blk_cell BKgq.out 3).trans rfl
 have hfgq_3 := blk_frozen BKgq.out 3
 go_upto_region 5 with (first | (go_at_fn 23; refine (queue_All.calls 60 E0 g0 [] E1 g1 [wrA] 0 1 [wrA] _ (C_empty _ _ _) (Nat.zero_le _) (Kd.F_now HO.out) HOL.out st4).mono ?_; rintro e w7 ⟨v7, rfl, h7, hb⟩; obtain ⟨A7, c7, rfl, hc7, hC7⟩ := Kd.R_reads h7; have HW7 := a0_ hC7; have HWL7 := a0_ hc7; clear h7 hC7 hc7; clear hcgq_0 hfgq_0 hcgq_1 hfgq_1 hcgq_2 hfgq_2 hcgq_3 hfgq_3; replace BKgq := a0_ (blk_below BKgq.out hb); replace HVn := a0_ (Kd.F_below HVn.out hb); replace HB := a0_ (below_step HB.out hb); replace HO := a0_ (Kd.F_below HO.out hb); have hcgq_0 : w7.cell? ⟨gq, 0, none⟩ = some (.slice E0 0 g0) := (blk_cell BKgq.out 0).trans rfl; have hfgq_0 := blk_frozen BKgq.out 0; have hcgq_1 : w7.cell? ⟨gq, 1, none⟩ = some (.slice E1 1 g1) := (blk_cell BKgq.out 1).trans rfl; have hfgq_1 := blk_frozen BKgq.out 1; have hcgq_2 : w7.cell? ⟨gq, 2, none⟩ = some (.int .i64 0) := (blk_cell BKgq.out 2).trans rfl; have hfgq_2 := blk_frozen BKgq.out 2; have hcgq_3 : w7.cell? ⟨gq, 3, none⟩ = some (.int .i64 1) := (blk_cell BKgq.out 3).trans rfl; have hfgq_3 := blk_frozen BKgq.out 3; clear hb) | (go_at_fn 16; refine (vols_Apply.calls 60 Av cv [emptyVol] A7 c7 [wrA] [volA] 0 _ (Kd.F_now HVn.out) HVL.out HW7.out HWL7.out st5).mono ?_; rintro e w8 ⟨v8, rfl, h8, hb⟩; obtain ⟨A8, c8, rfl⟩ := Kd.S_slice h8; have HV8 := a0_ (Kd.S_reads' h8).2.2; have HVL8 := a0_ (Kd.S_reads' h8).2.1; clear h8; clear hcgq_0 hfgq_0 hcgq_1 hfgq_1 hcgq_2 hfgq_2 hcgq_3 hfgq_3; replace BKgq := a0_ (blk_below BKgq.out hb); replace HVn := a0_ (Kd.F_below HVn.out hb); replace HB := a0_ (below_step HB.out hb); replace HO := a0_ (Kd.F_below HO.out hb); have hcgq_0 : w8.cell? ⟨gq, 0, none⟩ = some (.slice E0 0 g0) := (blk_cell BKgq.out 0).trans rfl; have hfgq_0 := blk_frozen BKgq.out 0; have hcgq_1 : w8.cell? ⟨gq, 1, none⟩ = some (.slice E1 1 g1) := (blk_cell BKgq.out 1).trans rfl; have hfgq_1 := blk_frozen BKgq.out 1; have hcgq_2 : w8.cell? ⟨gq, 2, none⟩ = some (.int .i64 0) := (blk_cell BKgq.out 2).trans rfl; have hfgq_2 := blk_frozen BKgq.out 2; have hcgq_3 : w8.cell? ⟨gq, 3, none⟩ = some (.int .i64 1) := (blk_cell BKgq.out 3).trans rfl; have hfgq_3 := blk_frozen BKgq.out 3; clear hb))
 go_upto_region 6 with (go_at_fn 46; refine (vols_Get.calls 60 A8 c8 [volA] 1 0 ⟨#[97]⟩ 0 _ HV8.out HVL8.out st6).mono ?_; rintro e w9 ⟨rfl, hb⟩; clear hcgq_0 hfgq_0 hcgq_1 hfgq_1 hcgq_2 hfgq_2 hcgq_3 hfgq_3; replace BKgq := a0_ (blk_below BKgq.out hb); replace HVn := a0_ (Kd.F_below HVn.out hb); replace HB := a0_ (below_step HB.out hb); replace HO := a0_ (Kd.F_below HO.out hb); have hcgq_0 : w9.cell? ⟨gq, 0, none⟩ = some (.slice E0 0 g0) := (blk_cell BKgq.out 0).trans rfl; have hfgq_0 := blk_frozen BKgq.out 0; have hcgq_1 : w9.cell? ⟨gq, 1, none⟩ = some (.slice E1 1 g1) := (blk_cell BKgq.out 1).trans rfl; have hfgq_1 := blk_frozen BKgq.out 1; have hcgq_2 : w9.cell? ⟨gq, 2, none⟩ = some (.int .i64 0) := (blk_cell BKgq.out 2).trans rfl; have hfgq_2 := blk_frozen BKgq.out 2; have hcgq_3 : w9.cell? ⟨gq, 3, none⟩ = some (.int .i64 1) := (blk_cell BKgq.out 3).trans rfl; have hfgq_3 := blk_frozen BKgq.out 3; clear hb)
 go_wp2_with (go_at_fn 17; refine (lag_Judge.calls 60 1 9 true E0 g0 [] E1 g1 [wrA] 0 1 none 0 [] 2 _ (C_empty _ _ _) (Nat.zero_le _) (Kd.F_now HO.out) HOL.out (C_empty _ _ _) (Nat.le_refl _) st7).mono ?_; rintro e w10 ⟨rfl, hb⟩; replace HB := a0_ (below_step HB.out hb); clear hb)
 go_ret
 exact ⟨rfl, HB.out⟩
end Go.Proofs.Ytecfndblgefhdaa.R
