import Derived.Test.YtecfndblgefhdaaKzRx12
import Derived.Test.YtecfndblgefhdaaKzQue
set_option linter.unusedVariables false
set_option linter.unusedSimpArgs false
namespace Go.Proofs.Ytecfndblgefhdaa.R
open Go.RowKit Go.Proofs.YtecfndblgefhdaaW.PrintWords Go.Proofs.YtecfndblgefhdaaW.PrintLast Go.Proofs.YtecfndblgefhdaaW.PrintMore
attribute [local go_sem] max2_int min2_int max_two min_two max_three min_three max_four min_four
set_option maxHeartbeats 4000000 in
set_option maxRecDepth 100000 in
theorem sNote.calls (k : Nat) (A0 : Option Addr) (c0 : Nat) (l0 : List S120) (A1 : Option Addr) (c1 : Nat) (l1 : List S137) (A2 : Option Addr) (c2 : Nat) (l2 : List S120) (most : Int) (ms : List S141) (old r : List S120) (e2 : Int) (w : World) (hr0 : Kd.C k120 w A0 l0.length l0) (hc0 : l0.length ≤ c0) (hr1 : Kd.C k137 w A1 l1.length l1) (hc1 : l1.length ≤ c1) (hr2 : Kd.C k120 w A2 l2.length l2) (hc2 : l2.length ≤ c2)
  (hR : snap_Right.f k l0 l1 = some true) (hck : vols_Check.f k l1 l2 = some 0) (hmk : fold_Marks.f k l2 = some ms) (hmost : (l0.length : Int) + ((ms.filter fun s => !(named l0 s.f0 s.f1)).length : Int) ≤ most) (hsm : most ≤ 1000000) (hpk : fold_Pick.f k l1 (ms.filter fun s => !(named l0 s.f0 s.f1)) = some (old, e2)) (hmg : fold_Merge.f k l0 old = some r) :
  Calls Try.prog 26 #[.slice A0 l0.length c0, .slice A1 l1.length c1, .slice A2 l2.length c2, .int .i64 most] w fun e w' => ∃ v : Value, e = .returned (.tuple #[v, .int .i64 0]) ∧ Rd k120 w' v r ∧ Below w.heap.size w w' := by
 have HR0 := a0_ hr0
 have HC0 := a0_ hc0
 have HR1 := a0_ hr1
 have HC1 := a0_ hc1
 have HR2 := a0_ hr2
 have HC2 := a0_ hc2
 have HRT := a0_ hR
 have HCK := a0_ hck
 have HMK := a0_ hmk
 have HPK := a0_ hpk
 have HMG := a0_ hmg
 clear hr0 hc0 hr1 hc1 hr2 hc2 hR hck hmk hpk hmg
 have HB := a0_ (Below.refl w.heap.size w)
 have eg0 : ∀ args w, (callFunc 62 args).run Try.prog w = .ok (.enter 62 args) w := enters_of Try.func62 z6_ rfl
 have eg1 : ∀ args w, (callFunc 48 args).run Try.prog w = .ok (.enter 48 args) w := enters_of Try.func48 z6_ rfl
 have eg2 : ∀ args w, (callFunc 25 args).run Try.prog w = .ok (.enter 25 args) w := enters_of Try.func25 z6_ rfl
 have eg3 : ∀ args w, (callFunc 24 args).run Try.prog w = .ok (.enter 24 args) w := enters_of Try.func24 z6_ rfl
 have eg4 : ∀ args w, (callFunc 54 args).run Try.prog w = .ok (.enter 54 args) w := enters_of Try.func54 z6_ rfl
 have eg9 : ∀ args w, (callFunc 63 args).run Try.prog w = .ok (.enter 63 args) w := enters_of Try.func63 z6_ rfl
 have hl0 : l0.length ≤ 9223372036854775807 := HR0.out.2.1
 generalize hfr : ms.filter (fun s => !(named l0 s.f0 s.f1)) = fr at *
 have HFR := a0_ hfr
 clear hfr
 go_enter Try.func26, Try.ntmps26
 go_upto_region 1 with ((with_reducible refine gate_dst (N := 4) rfl ?_); refine box_event ?hg (N := 4) ?hd (cs := #[.slice A0 l0.length c0]) (t := 49) ?hr ?_; (case hd => rfl); (case hg => rfl); (case hr => exact z30_); intro gk hg w1_ hbox hb; have GEgk := a0_ (z163_ : w.heap.size ≤ gk); have BKgk := a0_ hbox; replace HB := a0_ (below_step HB.out hb); clear hb hbox hg)
 have hcgk_0 : w1_.cell? ⟨gk, 0, none⟩ = some (.slice A0 l0.length c0) := (blk_cell BKgk.out 0).trans rfl
 have hfgk_0 := blk_frozen BKgk.out 0
 go_upto_region 3 with (go_at_fn 62; refine (snap_Right.calls k A0 c0 l0 A1 c1 l1 true _ (Kd.C_below HR0.out HB.out) HC0.out (Kd.C_below HR1.out HB.out) HC1.out HRT.out).mono ?_; rintro e wa ⟨rfl, hb⟩; have LB_ := HB.out.size; have Lgk := blk_lt BKgk.out; clear hcgk_0 hfgk_0; replace BKgk := a0_ (blk_below BKgk.out hb); replace HB := a0_ (below_step HB.out hb); have hcgk_0 : wa.cell? ⟨gk, 0, none⟩ = some (.slice A0 l0.length c0) := (blk_cell BKgk.out 0).trans rfl; have hfgk_0 := blk_frozen BKgk.out 0; clear hb LB_ Lgk)
 go_upto_region 6 with (go_at_fn 48; refine (vols_Check.calls k A1 c1 l1 A2 c2 l2 0 _ (Kd.C_below HR1.out HB.out) HC1.out (Kd.C_below HR2.out HB.out) HC2.out HCK.out).mono ?_; rintro e wb ⟨rfl, hb⟩; have LB_ := HB.out.size; have Lgk := blk_lt BKgk.out; clear hcgk_0 hfgk_0; replace BKgk := a0_ (blk_below BKgk.out hb); replace HB := a0_ (below_step HB.out hb); have hcgk_0 : wb.cell? ⟨gk, 0, none⟩ = some (.slice A0 l0.length c0) := (blk_cell BKgk.out 0).trans rfl; have hfgk_0 := blk_frozen BKgk.out 0; clear hb LB_ Lgk)
 have LBN := a0_ HB.out.size
 go_upto_region 7 with (first | (go_at_fn 25; refine (fold_Marks.calls k A2 c2 l2 ms _ (Kd.C_below HR2.out HB.out) HC2.out HMK.out).mono ?_; rintro e wm ⟨v0, rfl, hv, hb⟩; have HBo := a0_ HB.out; have HGK := a0_ (blk_lt BKgk.out); have LB_ := HB.out.size; have Lgk := blk_lt BKgk.out; clear hcgk_0 hfgk_0; replace BKgk := a0_ (blk_below BKgk.out hb); replace HB := a0_ (below_step HB.out hb); have hcgk_0 : wm.cell? ⟨gk, 0, none⟩ = some (.slice A0 l0.length c0) := (blk_cell BKgk.out 0).trans rfl; have hfgk_0 := blk_frozen BKgk.out 0; have HN := a0_ (Kd.N_mono (ok' := fun k => wb.heap.size ≤ k) (Kd.R_N (Kd.R_bound hv)) (fun k hk => hk.2.1)); have HF := a0_ (Kd.F_mono (ok' := fun k => ¬ wb.heap.size ≤ k) (Kd.F_below (Kd.C_F k120_heap (Kd.C_below HR0.out HBo.out)) hb) (fun k hk => z7_)); obtain ⟨B0, d0, rfl⟩ := Kd.R_slice hv; clear hv HBo; clear hb LB_ Lgk) | (go_at_fn 63; refine (delMarks.calls (.slice B0 ms.length d0) ms gk A0 c0 l0 wb.heap.size (fun k => wb.heap.size ≤ k) wm hcgk_0 HF.out (fun k hk => ⟨fun h => by have := HGK.out; omega, trivial⟩) HN.out).mono ?_; rintro e wd ⟨v1, rfl, hN1, hg⟩; rw [HFR.out] at hN1; have HLN := a0_ LBN.out; have NB := a0_ (Kd.N_reads hN1); have BL := a0_ (blk_grown BKgk.out hg (Kd.N_away HN.out (fun k hk h => by have := HGK.out; omega))); replace HB := a0_ (HB.out.grown hg (below_size HB.out) (fun k hk => Nat.le_trans LBN.out (Kd.N_base HN.out k hk))); obtain ⟨B6, d6, rfl, hl6, hC6⟩ := NB.out; have HD6 := a0_ hC6; have HL6 := a0_ hl6; clear hcgk_0 hfgk_0 BKgk HN HF hN1 hg NB hC6 hl6; have BKgk := a0_ BL.out; clear BL; have hcgk_0 : wd.cell? ⟨gk, 0, none⟩ = some (.slice A0 l0.length c0) := (blk_cell BKgk.out 0).trans rfl; have hfgk_0 := blk_frozen BKgk.out 0))
 have hsum : (l0.length : Int) + (fr.length : Int) ≤ most := hmost
 have hfl : fr.length ≤ 9223372036854775807 := HD6.out.2.1
 go_upto_region 9 with fail
 go_upto_region 10 with (go_at_fn 24; refine (fold_Pick.calls k A1 c1 l1 B6 d6 fr old e2 _ (Kd.C_below HR1.out HB.out) HC1.out HD6.out HL6.out HPK.out).mono ?_; rintro e wp ⟨v2, rfl, hv2, hb⟩; have LB_ := HB.out.size; have Lgk := blk_lt BKgk.out; clear hcgk_0 hfgk_0; replace BKgk := a0_ (blk_below BKgk.out hb); replace HB := a0_ (below_step HB.out hb); have hcgk_0 : wp.cell? ⟨gk, 0, none⟩ = some (.slice A0 l0.length c0) := (blk_cell BKgk.out 0).trans rfl; have hfgk_0 := blk_frozen BKgk.out 0; obtain ⟨B7, d7, rfl, hl7, hC7⟩ := Kd.R_reads hv2; have HD7 := a0_ hC7; have HL7 := a0_ hl7; clear hv2 hC7 hl7; clear hb LB_ Lgk)
 go_wp2_with (go_at_fn 54; refine (fold_Merge.calls k _ A0 c0 l0 _ B7 d7 old r _ (C_V k120_heap (Kd.C_below HR0.out HB.out) HC0.out) (C_V k120_heap HD7.out HL7.out) HMG.out).mono ?_; rintro e wz ⟨v3, rfl, hv3, hb⟩; have LB_ := HB.out.size; have Lgk := blk_lt BKgk.out; clear hcgk_0 hfgk_0; replace BKgk := a0_ (blk_below BKgk.out hb); replace HB := a0_ (below_step HB.out hb); have hcgk_0 : wz.cell? ⟨gk, 0, none⟩ = some (.slice A0 l0.length c0) := (blk_cell BKgk.out 0).trans rfl; have hfgk_0 := blk_frozen BKgk.out 0; have HRd := a0_ (Kd.R_reads hv3); clear hv3; clear hb LB_ Lgk)
 go_ret2
 exact ⟨_, rfl, HRd.out, HB.out⟩
end Go.Proofs.Ytecfndblgefhdaa.R
