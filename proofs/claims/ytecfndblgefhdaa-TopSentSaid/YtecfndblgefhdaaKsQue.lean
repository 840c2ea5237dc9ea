import Derived.Test.YtecfndblgefhdaaKsRx11
import Derived.Test.YtecfndblgefhdaaKsRx6
import Derived.Test.YtecfndblgefhdaaKsDelB
set_option linter.unusedVariables false
set_option linter.unusedSimpArgs false
namespace Go.Proofs.Ytecfndblgefhdaa.R
open Go.RowKit Go.Proofs.YtecfndblgefhdaaW.PrintWords Go.Proofs.YtecfndblgefhdaaW.PrintLast Go.Proofs.YtecfndblgefhdaaW.PrintMore
attribute [local go_sem] max2_int min2_int max_two min_two max_three min_three max_four min_four
def Rd {α : Type} (d : Kd α) (w : World) (v : Value) (xs : List α) : Prop := ∃ A c, v = .slice A xs.length c ∧ xs.length ≤ c ∧ d.C w A xs.length xs
theorem Rd.below {α : Type} {d : Kd α} {w w1 : World} {v : Value} {xs : List α} (h : Rd d w v xs) (hb : Below w.heap.size w w1) : Rd d w1 v xs := by
 obtain ⟨A, c, h1, h2, h3⟩ := h
 exact ⟨A, c, h1, h2, Kd.C_below h3 hb⟩
def Rn {α : Type} (d : Kd α) (w0 w : World) (v : Value) (xs : List α) : Prop := ∃ A c, v = .slice A xs.length c ∧ xs.length ≤ c ∧ Kd.F d w (fun k => w0.heap.size ≤ k) A xs.length xs
theorem Rn.mk {α : Type} {d : Kd α} {w0 w : World} {A : Option Addr} {c : Nat} {xs : List α} {ok : Nat → Prop} (h : Kd.F d w ok A xs.length xs) (hok : ∀ k, ok k → w0.heap.size ≤ k) (hc : xs.length ≤ c) : Rn d w0 w (.slice A xs.length c) xs := ⟨A, c, rfl, hc, Kd.F_mono h hok⟩
theorem Rn.nil {α : Type} (d : Kd α) (w0 w : World) : Rn d w0 w (.slice none 0 0) [] := ⟨none, 0, rfl, Nat.le_refl _, Kd.F_nil _ _ _⟩
theorem Rn.of_R {α : Type} {d : Kd α} {e : Nat} {w0 w : World} {ok : Nat → Prop} {v : Value} {xs : List α} (h : d.R e w w0.heap.size ok v xs) : Rn d w0 w v xs := by
 obtain ⟨A, c, rfl, hc, _⟩ := Kd.R_reads h
 exact Rn.mk (Kd.R_F (Kd.R_bound h)) (fun k hk => hk.2.1) hc
theorem Rn.of_S {α : Type} {d : Kd α} {e : Nat} {w0 w : World} {ok : Nat → Prop} {v : Value} {xs : List α} (h : Kd.S d e w w0.heap.size ok v xs) : Rn d w0 w v xs := Rn.of_R (Kd.S_R h)
theorem C_V {α : Type} {d : Kd α} {e base : Nat} (hd : Kd.Heap d) {w : World} {A : Option Addr} {c : Nat} {xs : List α} (h : d.C w A xs.length xs) (hc : xs.length ≤ c) : Kd.V d e w base (fun k => k < w.heap.size) (.slice A xs.length c) xs := Kd.V_mk hc (Kd.C_F hd h)
set_option maxHeartbeats 4000000 in
set_option maxRecDepth 100000 in
theorem qAdd.calls (k : Nat) (A0 : Option Addr) (c0 : Nat) (l0 : List S51) (A1 : Option Addr) (c1 : Nat) (l1 : List S120) (a2 a3 : Int) (A2 : Option Addr) (c2 : Nat) (l2 r : List S120) (w : World) (hr0 : Kd.C k51 w A0 l0.length l0) (hc0 : l0.length ≤ c0) (hr1 : Kd.C k120 w A1 l1.length l1) (hc1 : l1.length ≤ c1) (hr2 : Kd.C k120 w A2 l2.length l2) (hc2 : l2.length ≤ c2) (hR : queue_Right.f k l0 l1 a2 a3 = some true) (hcl : queue_clone.f k l0 l1 a2 a3 = some (l0, l1, a2, a3)) (ht : 0 ≤ a3 ∧ a3 < 1000000) (hm : fold_Merge.f k l1 l2 = some r) :
  Calls Try.prog 18 #[.agg #[.slice A0 l0.length c0, .slice A1 l1.length c1, .int .i64 a2, .int .i64 a3], .slice A2 l2.length c2] w fun e w' => ∃ v0 v1 : Value, e = .returned (.tuple #[.agg #[v0, v1, .int .i64 a2, .int .i64 (a3 + 1)], .int .i64 0]) ∧ Rn k51 w w' v0 l0 ∧ Rn k120 w w' v1 r ∧ Below w.heap.size w w' := by
 have HR0 := a0_ hr0
 have HC0 := a0_ hc0
 have HR1 := a0_ hr1
 have HC1 := a0_ hc1
 have HRT := a0_ hR
 have HCL := a0_ hcl
 have HMG := a0_ hm
 have HR2 := a0_ hr2
 have HC2 := a0_ hc2
 clear hr0 hc0 hr1 hc1 hR hcl hm hr2 hc2
 have HB := a0_ (Below.refl w.heap.size w)
 have ht1 : (a3 == 1099511627776) = false := beq_eq_false_iff_ne.2 z7_
 have ht2 : 0 ≤ a3 := by omega
 have eg1 : ∀ args w, (callFunc 51 args).run Try.prog w = .ok (.enter 51 args) w := enters_of Try.func51 z6_ rfl
 have eg2 : ∀ args w, (callFunc 53 args).run Try.prog w = .ok (.enter 53 args) w := enters_of Try.func53 z6_ rfl
 have eg3 : ∀ args w, (callFunc 54 args).run Try.prog w = .ok (.enter 54 args) w := enters_of Try.func54 z6_ rfl
 go_enter Try.func18, Try.ntmps18
 go_upto_region 1 with (first | ((with_reducible refine gate_dst (N := 2) rfl ?_); refine box_event ?hg (N := 2) ?hd (cs := #[.slice A0 l0.length c0, .slice A1 l1.length c1, .int .i64 a2, .int .i64 a3]) (t := 68) ?hr ?_; (case hd => rfl); (case hg => rfl); (case hr => exact z29_); intro gq hg w1_ hbox hb; have GEgq := a0_ (z152_ : w.heap.size ≤ gq); have BKgq := a0_ hbox; replace HB := a0_ (below_step HB.out hb); clear hb hbox hg) | ((with_reducible refine gate_dst (N := 4) rfl ?_); refine box_event ?hg (N := 4) ?hd (cs := #[.slice none 0 0, .slice none 0 0, .int .i64 0, .int .i64 0]) (t := 68) ?hr ?_; (case hd => rfl); (case hg => rfl); (case hr => exact z29_); intro gr hg w2_ hbox hb; have Lgq := blk_lt BKgq.out; have hngqgr : gq ≠ gr := (fun h => z7_); have hngrgq : gr ≠ gq := (fun h => z7_); replace BKgq := a0_ (blk_below BKgq.out hb); have GEgr := a0_ (z152_ : w.heap.size ≤ gr); have BKgr := a0_ hbox; replace HB := a0_ (below_step HB.out hb); clear hb hbox hg Lgq))
 have hcgq_0 : w2_.cell? ⟨gq, 0, none⟩ = some (.slice A0 l0.length c0) := (blk_cell BKgq.out 0).trans rfl
 have hfgq_0 := blk_frozen BKgq.out 0
 have hcgq_1 : w2_.cell? ⟨gq, 1, none⟩ = some (.slice A1 l1.length c1) := (blk_cell BKgq.out 1).trans rfl
 have hfgq_1 := blk_frozen BKgq.out 1
 have hcgq_2 : w2_.cell? ⟨gq, 2, none⟩ = some (.int .i64 a2) := (blk_cell BKgq.out 2).trans rfl
 have hfgq_2 := blk_frozen BKgq.out 2
 have hcgq_3 : w2_.cell? ⟨gq, 3, none⟩ = some (.int .i64 a3) := (blk_cell BKgq.out 3).trans rfl
 have hfgq_3 := blk_frozen BKgq.out 3
 have hcgr_0 : w2_.cell? ⟨gr, 0, none⟩ = some (.slice none 0 0) := (blk_cell BKgr.out 0).trans rfl
 have hfgr_0 := blk_frozen BKgr.out 0
 have hcgr_1 : w2_.cell? ⟨gr, 1, none⟩ = some (.slice none 0 0) := (blk_cell BKgr.out 1).trans rfl
 have hfgr_1 := blk_frozen BKgr.out 1
 have hcgr_2 : w2_.cell? ⟨gr, 2, none⟩ = some (.int .i64 0) := (blk_cell BKgr.out 2).trans rfl
 have hfgr_2 := blk_frozen BKgr.out 2
 have hcgr_3 : w2_.cell? ⟨gr, 3, none⟩ = some (.int .i64 0) := (blk_cell BKgr.out 3).trans rfl
 have hfgr_3 := blk_frozen BKgr.out 3
 go_upto_region 3 with (go_at_fn 51; refine (queue_Right.calls k A0 c0 l0 A1 c1 l1 a2 a3 true _ (Kd.C_below HR0.out HB.out) HC0.out (Kd.C_below HR1.out HB.out) HC1.out HRT.out).mono ?_; rintro e wr ⟨rfl, hb⟩; have LB_ := HB.out.size; have Lgq := blk_lt BKgq.out; have Lgr := blk_lt BKgr.out; clear hcgq_0 hfgq_0 hcgq_1 hfgq_1 hcgq_2 hfgq_2 hcgq_3 hfgq_3 hcgr_0 hfgr_0 hcgr_1 hfgr_1 hcgr_2 hfgr_2 hcgr_3 hfgr_3; replace BKgq := a0_ (blk_below BKgq.out hb); replace BKgr := a0_ (blk_below BKgr.out hb); replace HB := a0_ (below_step HB.out hb); have hcgq_0 : wr.cell? ⟨gq, 0, none⟩ = some (.slice A0 l0.length c0) := (blk_cell BKgq.out 0).trans rfl; have hfgq_0 := blk_frozen BKgq.out 0; have hcgq_1 : wr.cell? ⟨gq, 1, none⟩ = some (.slice A1 l1.length c1) := (blk_cell BKgq.out 1).trans rfl; have hfgq_1 := blk_frozen BKgq.out 1; have hcgq_2 : wr.cell? ⟨gq, 2, none⟩ = some (.int .i64 a2) := (blk_cell BKgq.out 2).trans rfl; have hfgq_2 := blk_frozen BKgq.out 2; have hcgq_3 : wr.cell? ⟨gq, 3, none⟩ = some (.int .i64 a3) := (blk_cell BKgq.out 3).trans rfl; have hfgq_3 := blk_frozen BKgq.out 3; have hcgr_0 : wr.cell? ⟨gr, 0, none⟩ = some (.slice none 0 0) := (blk_cell BKgr.out 0).trans rfl; have hfgr_0 := blk_frozen BKgr.out 0; have hcgr_1 : wr.cell? ⟨gr, 1, none⟩ = some (.slice none 0 0) := (blk_cell BKgr.out 1).trans rfl; have hfgr_1 := blk_frozen BKgr.out 1; have hcgr_2 : wr.cell? ⟨gr, 2, none⟩ = some (.int .i64 0) := (blk_cell BKgr.out 2).trans rfl; have hfgr_2 := blk_frozen BKgr.out 2; have hcgr_3 : wr.cell? ⟨gr, 3, none⟩ = some (.int .i64 0) := (blk_cell BKgr.out 3).trans rfl; have hfgr_3 := blk_frozen BKgr.out 3; clear hb LB_ Lgq Lgr)
 go_upto_region 4 with (go_at_fn 53; refine (queue_clone.calls k A0 c0 l0 A1 c1 l1 a2 a3 l0 l1 a2 a3 _ (Kd.C_below HR0.out HB.out) HC0.out (Kd.C_below HR1.out HB.out) HC1.out HCL.out).mono ?_; rintro e wc ⟨v0, v1, rfl, hv0, hv1, hb⟩; have LB_ := HB.out.size; have Lgq := blk_lt BKgq.out; have Lgr := blk_lt BKgr.out; clear hcgq_0 hfgq_0 hcgq_1 hfgq_1 hcgq_2 hfgq_2 hcgq_3 hfgq_3 hcgr_0 hfgr_0 hcgr_1 hfgr_1 hcgr_2 hfgr_2 hcgr_3 hfgr_3; replace BKgq := a0_ (blk_below BKgq.out hb); replace BKgr := a0_ (blk_below BKgr.out hb); replace HB := a0_ (below_step HB.out hb); have hcgq_0 : wc.cell? ⟨gq, 0, none⟩ = some (.slice A0 l0.length c0) := (blk_cell BKgq.out 0).trans rfl; have hfgq_0 := blk_frozen BKgq.out 0; have hcgq_1 : wc.cell? ⟨gq, 1, none⟩ = some (.slice A1 l1.length c1) := (blk_cell BKgq.out 1).trans rfl; have hfgq_1 := blk_frozen BKgq.out 1; have hcgq_2 : wc.cell? ⟨gq, 2, none⟩ = some (.int .i64 a2) := (blk_cell BKgq.out 2).trans rfl; have hfgq_2 := blk_frozen BKgq.out 2; have hcgq_3 : wc.cell? ⟨gq, 3, none⟩ = some (.int .i64 a3) := (blk_cell BKgq.out 3).trans rfl; have hfgq_3 := blk_frozen BKgq.out 3; have hcgr_0 : wc.cell? ⟨gr, 0, none⟩ = some (.slice none 0 0) := (blk_cell BKgr.out 0).trans rfl; have hfgr_0 := blk_frozen BKgr.out 0; have hcgr_1 : wc.cell? ⟨gr, 1, none⟩ = some (.slice none 0 0) := (blk_cell BKgr.out 1).trans rfl; have hfgr_1 := blk_frozen BKgr.out 1; have hcgr_2 : wc.cell? ⟨gr, 2, none⟩ = some (.int .i64 0) := (blk_cell BKgr.out 2).trans rfl; have hfgr_2 := blk_frozen BKgr.out 2; have hcgr_3 : wc.cell? ⟨gr, 3, none⟩ = some (.int .i64 0) := (blk_cell BKgr.out 3).trans rfl; have hfgr_3 := blk_frozen BKgr.out 3; obtain ⟨B0, d0, rfl, hl0, hC0⟩ := Kd.N_reads hv0; obtain ⟨B1, d1, rfl, hl1, hC1⟩ := Kd.R_reads hv1; have HD0 := a0_ (Kd.F_mono (ok' := (fun k => w.heap.size ≤ k ∧ k ≠ gq ∧ k ≠ gr)) (Kd.N_F hv0) (fun k hk => ⟨z153_, (fun h => z153_), (fun h => z153_)⟩)); have HD1 := a0_ (Kd.F_mono (ok' := (fun k => w.heap.size ≤ k ∧ k ≠ gq ∧ k ≠ gr)) (Kd.R_F hv1) (fun k hk => ⟨z154_, (fun h => z154_), (fun h => z154_)⟩)); have HL0 := a0_ hl0; have HL1 := a0_ hl1; clear hv0 hv1 hC0 hC1 hl0 hl1; clear hb LB_ Lgq Lgr)
 clear hcgq_0 hfgq_0 hcgq_1 hfgq_1 hcgq_2 hfgq_2 hcgq_3 hfgq_3 hcgr_0 hfgr_0 hcgr_1 hfgr_1 hcgr_2 hfgr_2 hcgr_3 hfgr_3
 have nBKgq := a0_ (blk_put (cs' := #[.slice B0 l0.length d0, .slice B1 l1.length d1, .int .i64 a2, .int .i64 a3]) (blk_put (cs' := #[.slice B0 l0.length d0, .slice B1 l1.length d1, .int .i64 a2, .int .i64 a3]) (blk_put (cs' := #[.slice B0 l0.length d0, .slice B1 l1.length d1, .int .i64 a2, .int .i64 a3]) (blk_put (cs' := #[.slice B0 l0.length d0, .slice A1 l1.length c1, .int .i64 a2, .int .i64 a3]) BKgq.out 0 _ rfl) 1 _ rfl) 2 _ rfl) 3 _ rfl)
 have nBKgr := a0_ (blk_far (p := ⟨gq, 3, none⟩) (blk_far (p := ⟨gq, 2, none⟩) (blk_far (p := ⟨gq, 1, none⟩) (blk_far (p := ⟨gq, 0, none⟩) BKgr.out hngrgq (.slice B0 l0.length d0)) hngrgq (.slice B1 l1.length d1)) hngrgq (.int .i64 a2)) hngrgq (.int .i64 a3))
 have nHB := a0_ (below_set (j := 3) (v := .int .i64 a3) (below_set (j := 2) (v := .int .i64 a2) (below_set (j := 1) (v := .slice B1 l1.length d1) (below_set (j := 0) (v := .slice B0 l0.length d0) HB.out GEgq.out) GEgq.out) GEgq.out) GEgq.out)
 have nHD0 := a0_ (Kd.F_far (p := ⟨gq, 3, none⟩) (Kd.F_far (p := ⟨gq, 2, none⟩) (Kd.F_far (p := ⟨gq, 1, none⟩) (Kd.F_far (p := ⟨gq, 0, none⟩) HD0.out (fun k hk => hk.2.1) (.slice B0 l0.length d0)) (fun k hk => hk.2.1) (.slice B1 l1.length d1)) (fun k hk => hk.2.1) (.int .i64 a2)) (fun k hk => hk.2.1) (.int .i64 a3))
 have nHD1 := a0_ (Kd.F_far (p := ⟨gq, 3, none⟩) (Kd.F_far (p := ⟨gq, 2, none⟩) (Kd.F_far (p := ⟨gq, 1, none⟩) (Kd.F_far (p := ⟨gq, 0, none⟩) HD1.out (fun k hk => hk.2.1) (.slice B0 l0.length d0)) (fun k hk => hk.2.1) (.slice B1 l1.length d1)) (fun k hk => hk.2.1) (.int .i64 a2)) (fun k hk => hk.2.1) (.int .i64 a3))
 clear BKgq BKgr HB HD0 HD1
 generalize (World.setCell (World.setCell (World.setCell (World.setCell wc ⟨gq, 0, none⟩ (.slice B0 l0.length d0)) ⟨gq, 1, none⟩ (.slice B1 l1.length d1)) ⟨gq, 2, none⟩ (.int .i64 a2)) ⟨gq, 3, none⟩ (.int .i64 a3)) = w3_ at nBKgq nBKgr nHB nHD0 nHD1 ⊢
 have BKgq := a0_ nBKgq.out
 have BKgr := a0_ nBKgr.out
 have HD0 := a0_ nHD0.out
 clear nHD0
 have HD1 := a0_ nHD1.out
 clear nHD1
 have HB := a0_ nHB.out
 clear nBKgq nBKgr nHB
 have hcgq_0 : w3_.cell? ⟨gq, 0, none⟩ = some (.slice B0 l0.length d0) := (blk_cell BKgq.out 0).trans rfl
 have hfgq_0 := blk_frozen BKgq.out 0
 have hcgq_1 : w3_.cell? ⟨gq, 1, none⟩ = some (.slice B1 l1.length d1) := (blk_cell BKgq.out 1).trans rfl
 have hfgq_1 := blk_frozen BKgq.out 1
 have hcgq_2 : w3_.cell? ⟨gq, 2, none⟩ = some (.int .i64 a2) := (blk_cell BKgq.out 2).trans rfl
 have hfgq_2 := blk_frozen BKgq.out 2
 have hcgq_3 : w3_.cell? ⟨gq, 3, none⟩ = some (.int .i64 a3) := (blk_cell BKgq.out 3).trans rfl
 have hfgq_3 := blk_frozen BKgq.out 3
 have hcgr_0 : w3_.cell? ⟨gr, 0, none⟩ = some (.slice none 0 0) := (blk_cell BKgr.out 0).trans rfl
 have hfgr_0 := blk_frozen BKgr.out 0
 have hcgr_1 : w3_.cell? ⟨gr, 1, none⟩ = some (.slice none 0 0) := (blk_cell BKgr.out 1).trans rfl
 have hfgr_1 := blk_frozen BKgr.out 1
 have hcgr_2 : w3_.cell? ⟨gr, 2, none⟩ = some (.int .i64 0) := (blk_cell BKgr.out 2).trans rfl
 have hfgr_2 := blk_frozen BKgr.out 2
 have hcgr_3 : w3_.cell? ⟨gr, 3, none⟩ = some (.int .i64 0) := (blk_cell BKgr.out 3).trans rfl
 have hfgr_3 := blk_frozen BKgr.out 3
 go_upto_region 5 with fail
 clear hcgq_0 hfgq_0 hcgq_1 hfgq_1 hcgq_2 hfgq_2 hcgq_3 hfgq_3 hcgr_0 hfgr_0 hcgr_1 hfgr_1 hcgr_2 hfgr_2 hcgr_3 hfgr_3
 have nBKgq := a0_ (blk_put (cs' := #[.slice B0 l0.length d0, .slice B1 l1.length d1, .int .i64 a2, .int .i64 (a3 + 1)]) BKgq.out 3 _ rfl)
 have nBKgr := a0_ (blk_far (p := ⟨gq, 3, none⟩) BKgr.out hngrgq (.int .i64 (a3 + 1)))
 have nHB := a0_ (below_set (j := 3) (v := .int .i64 (a3 + 1)) HB.out GEgq.out)
 have nHD0 := a0_ (Kd.F_far (p := ⟨gq, 3, none⟩) HD0.out (fun k hk => hk.2.1) (.int .i64 (a3 + 1)))
 have nHD1 := a0_ (Kd.F_far (p := ⟨gq, 3, none⟩) HD1.out (fun k hk => hk.2.1) (.int .i64 (a3 + 1)))
 clear BKgq BKgr HB HD0 HD1
 generalize (World.setCell w3_ ⟨gq, 3, none⟩ (.int .i64 (a3 + 1))) = w4_ at nBKgq nBKgr nHB nHD0 nHD1 ⊢
 have BKgq := a0_ nBKgq.out
 have BKgr := a0_ nBKgr.out
 have HD0 := a0_ nHD0.out
 clear nHD0
 have HD1 := a0_ nHD1.out
 clear nHD1
 have HB := a0_ nHB.out
 clear nBKgq nBKgr nHB
 have hcgq_0 : w4_.cell? ⟨gq, 0, none⟩ = some (.slice B0 l0.length d0) := (blk_cell BKgq.out 0).trans rfl
 have hfgq_0 := blk_frozen BKgq.out 0
 have hcgq_1 : w4_.cell? ⟨gq, 1, none⟩ = some (.slice B1 l1.length d1) := (blk_cell BKgq.out 1).trans rfl
 have hfgq_1 := blk_frozen BKgq.out 1
 have hcgq_2 : w4_.cell? ⟨gq, 2, none⟩ = some (.int .i64 a2) := (blk_cell BKgq.out 2).trans rfl
 have hfgq_2 := blk_frozen BKgq.out 2
 have hcgq_3 : w4_.cell? ⟨gq, 3, none⟩ = some (.int .i64 (a3 + 1)) := (blk_cell BKgq.out 3).trans rfl
 have hfgq_3 := blk_frozen BKgq.out 3
 have hcgr_0 : w4_.cell? ⟨gr, 0, none⟩ = some (.slice none 0 0) := (blk_cell BKgr.out 0).trans rfl
 have hfgr_0 := blk_frozen BKgr.out 0
 have hcgr_1 : w4_.cell? ⟨gr, 1, none⟩ = some (.slice none 0 0) := (blk_cell BKgr.out 1).trans rfl
 have hfgr_1 := blk_frozen BKgr.out 1
 have hcgr_2 : w4_.cell? ⟨gr, 2, none⟩ = some (.int .i64 0) := (blk_cell BKgr.out 2).trans rfl
 have hfgr_2 := blk_frozen BKgr.out 2
 have hcgr_3 : w4_.cell? ⟨gr, 3, none⟩ = some (.int .i64 0) := (blk_cell BKgr.out 3).trans rfl
 have hfgr_3 := blk_frozen BKgr.out 3
 go_upto_region 6 with (go_at_fn 54; refine (fold_Merge.calls k _ B1 d1 l1 _ A2 c2 l2 r _ (Kd.V_mk HL1.out HD1.out) (C_V k120_heap (Kd.C_below HR2.out HB.out) HC2.out) HMG.out).mono ?_; rintro e wm ⟨v2, rfl, hv2, hb⟩; have LB_ := HB.out.size; have Lgq := blk_lt BKgq.out; have Lgr := blk_lt BKgr.out; clear hcgq_0 hfgq_0 hcgq_1 hfgq_1 hcgq_2 hfgq_2 hcgq_3 hfgq_3 hcgr_0 hfgr_0 hcgr_1 hfgr_1 hcgr_2 hfgr_2 hcgr_3 hfgr_3; replace BKgq := a0_ (blk_below BKgq.out hb); replace BKgr := a0_ (blk_below BKgr.out hb); replace HB := a0_ (below_step HB.out hb); replace HD0 := a0_ (Kd.F_below HD0.out hb); replace HD1 := a0_ (Kd.F_below HD1.out hb); have hcgq_0 : wm.cell? ⟨gq, 0, none⟩ = some (.slice B0 l0.length d0) := (blk_cell BKgq.out 0).trans rfl; have hfgq_0 := blk_frozen BKgq.out 0; have hcgq_1 : wm.cell? ⟨gq, 1, none⟩ = some (.slice B1 l1.length d1) := (blk_cell BKgq.out 1).trans rfl; have hfgq_1 := blk_frozen BKgq.out 1; have hcgq_2 : wm.cell? ⟨gq, 2, none⟩ = some (.int .i64 a2) := (blk_cell BKgq.out 2).trans rfl; have hfgq_2 := blk_frozen BKgq.out 2; have hcgq_3 : wm.cell? ⟨gq, 3, none⟩ = some (.int .i64 (a3 + 1)) := (blk_cell BKgq.out 3).trans rfl; have hfgq_3 := blk_frozen BKgq.out 3; have hcgr_0 : wm.cell? ⟨gr, 0, none⟩ = some (.slice none 0 0) := (blk_cell BKgr.out 0).trans rfl; have hfgr_0 := blk_frozen BKgr.out 0; have hcgr_1 : wm.cell? ⟨gr, 1, none⟩ = some (.slice none 0 0) := (blk_cell BKgr.out 1).trans rfl; have hfgr_1 := blk_frozen BKgr.out 1; have hcgr_2 : wm.cell? ⟨gr, 2, none⟩ = some (.int .i64 0) := (blk_cell BKgr.out 2).trans rfl; have hfgr_2 := blk_frozen BKgr.out 2; have hcgr_3 : wm.cell? ⟨gr, 3, none⟩ = some (.int .i64 0) := (blk_cell BKgr.out 3).trans rfl; have hfgr_3 := blk_frozen BKgr.out 3; obtain ⟨B2, d2, rfl, hl2, hC2⟩ := Kd.R_reads hv2; have HD2 := a0_ (Kd.F_mono (ok' := (fun k => w.heap.size ≤ k ∧ k ≠ gq ∧ k ≠ gr)) (Kd.R_F hv2) (fun k hk => ⟨z154_, (fun h => z154_), (fun h => z154_)⟩)); have HL2 := a0_ hl2; clear hv2 hC2 hl2; clear hb LB_ Lgq Lgr)
 clear hcgq_0 hfgq_0 hcgq_1 hfgq_1 hcgq_2 hfgq_2 hcgq_3 hfgq_3 hcgr_0 hfgr_0 hcgr_1 hfgr_1 hcgr_2 hfgr_2 hcgr_3 hfgr_3
 have nBKgq := a0_ (blk_put (cs' := #[.slice B0 l0.length d0, .slice B2 r.length d2, .int .i64 a2, .int .i64 (a3 + 1)]) BKgq.out 1 _ rfl)
 have nBKgr := a0_ (blk_far (p := ⟨gq, 1, none⟩) BKgr.out hngrgq (.slice B2 r.length d2))
 have nHB := a0_ (below_set (j := 1) (v := .slice B2 r.length d2) HB.out GEgq.out)
 have nHD0 := a0_ (Kd.F_far (p := ⟨gq, 1, none⟩) HD0.out (fun k hk => hk.2.1) (.slice B2 r.length d2))
 have nHD1 := a0_ (Kd.F_far (p := ⟨gq, 1, none⟩) HD1.out (fun k hk => hk.2.1) (.slice B2 r.length d2))
 have nHD2 := a0_ (Kd.F_far (p := ⟨gq, 1, none⟩) HD2.out (fun k hk => hk.2.1) (.slice B2 r.length d2))
 clear BKgq BKgr HB HD0 HD1 HD2
 generalize (World.setCell wm ⟨gq, 1, none⟩ (.slice B2 r.length d2)) = w5_ at nBKgq nBKgr nHB nHD0 nHD1 nHD2 ⊢
 have BKgq := a0_ nBKgq.out
 have BKgr := a0_ nBKgr.out
 have HD0 := a0_ nHD0.out
 clear nHD0
 have HD1 := a0_ nHD1.out
 clear nHD1
 have HD2 := a0_ nHD2.out
 clear nHD2
 have HB := a0_ nHB.out
 clear nBKgq nBKgr nHB
 have hcgq_0 : w5_.cell? ⟨gq, 0, none⟩ = some (.slice B0 l0.length d0) := (blk_cell BKgq.out 0).trans rfl
 have hfgq_0 := blk_frozen BKgq.out 0
 have hcgq_1 : w5_.cell? ⟨gq, 1, none⟩ = some (.slice B2 r.length d2) := (blk_cell BKgq.out 1).trans rfl
 have hfgq_1 := blk_frozen BKgq.out 1
 have hcgq_2 : w5_.cell? ⟨gq, 2, none⟩ = some (.int .i64 a2) := (blk_cell BKgq.out 2).trans rfl
 have hfgq_2 := blk_frozen BKgq.out 2
 have hcgq_3 : w5_.cell? ⟨gq, 3, none⟩ = some (.int .i64 (a3 + 1)) := (blk_cell BKgq.out 3).trans rfl
 have hfgq_3 := blk_frozen BKgq.out 3
 have hcgr_0 : w5_.cell? ⟨gr, 0, none⟩ = some (.slice none 0 0) := (blk_cell BKgr.out 0).trans rfl
 have hfgr_0 := blk_frozen BKgr.out 0
 have hcgr_1 : w5_.cell? ⟨gr, 1, none⟩ = some (.slice none 0 0) := (blk_cell BKgr.out 1).trans rfl
 have hfgr_1 := blk_frozen BKgr.out 1
 have hcgr_2 : w5_.cell? ⟨gr, 2, none⟩ = some (.int .i64 0) := (blk_cell BKgr.out 2).trans rfl
 have hfgr_2 := blk_frozen BKgr.out 2
 have hcgr_3 : w5_.cell? ⟨gr, 3, none⟩ = some (.int .i64 0) := (blk_cell BKgr.out 3).trans rfl
 have hfgr_3 := blk_frozen BKgr.out 3
 go_wp2
 clear hcgq_0 hfgq_0 hcgq_1 hfgq_1 hcgq_2 hfgq_2 hcgq_3 hfgq_3 hcgr_0 hfgr_0 hcgr_1 hfgr_1 hcgr_2 hfgr_2 hcgr_3 hfgr_3
 have nBKgr := a0_ (blk_put (cs' := #[.slice B0 l0.length d0, .slice B2 r.length d2, .int .i64 a2, .int .i64 (a3 + 1)]) (blk_put (cs' := #[.slice B0 l0.length d0, .slice B2 r.length d2, .int .i64 a2, .int .i64 0]) (blk_put (cs' := #[.slice B0 l0.length d0, .slice B2 r.length d2, .int .i64 0, .int .i64 0]) (blk_put (cs' := #[.slice B0 l0.length d0, .slice none 0 0, .int .i64 0, .int .i64 0]) BKgr.out 0 _ rfl) 1 _ rfl) 2 _ rfl) 3 _ rfl)
 have nBKgq := a0_ (blk_far (p := ⟨gr, 3, none⟩) (blk_far (p := ⟨gr, 2, none⟩) (blk_far (p := ⟨gr, 1, none⟩) (blk_far (p := ⟨gr, 0, none⟩) BKgq.out hngqgr (.slice B0 l0.length d0)) hngqgr (.slice B2 r.length d2)) hngqgr (.int .i64 a2)) hngqgr (.int .i64 (a3 + 1)))
 have nHB := a0_ (below_set (j := 3) (v := .int .i64 (a3 + 1)) (below_set (j := 2) (v := .int .i64 a2) (below_set (j := 1) (v := .slice B2 r.length d2) (below_set (j := 0) (v := .slice B0 l0.length d0) HB.out GEgr.out) GEgr.out) GEgr.out) GEgr.out)
 have nHD0 := a0_ (Kd.F_far (p := ⟨gr, 3, none⟩) (Kd.F_far (p := ⟨gr, 2, none⟩) (Kd.F_far (p := ⟨gr, 1, none⟩) (Kd.F_far (p := ⟨gr, 0, none⟩) HD0.out (fun k hk => hk.2.2) (.slice B0 l0.length d0)) (fun k hk => hk.2.2) (.slice B2 r.length d2)) (fun k hk => hk.2.2) (.int .i64 a2)) (fun k hk => hk.2.2) (.int .i64 (a3 + 1)))
 have nHD1 := a0_ (Kd.F_far (p := ⟨gr, 3, none⟩) (Kd.F_far (p := ⟨gr, 2, none⟩) (Kd.F_far (p := ⟨gr, 1, none⟩) (Kd.F_far (p := ⟨gr, 0, none⟩) HD1.out (fun k hk => hk.2.2) (.slice B0 l0.length d0)) (fun k hk => hk.2.2) (.slice B2 r.length d2)) (fun k hk => hk.2.2) (.int .i64 a2)) (fun k hk => hk.2.2) (.int .i64 (a3 + 1)))
 have nHD2 := a0_ (Kd.F_far (p := ⟨gr, 3, none⟩) (Kd.F_far (p := ⟨gr, 2, none⟩) (Kd.F_far (p := ⟨gr, 1, none⟩) (Kd.F_far (p := ⟨gr, 0, none⟩) HD2.out (fun k hk => hk.2.2) (.slice B0 l0.length d0)) (fun k hk => hk.2.2) (.slice B2 r.length d2)) (fun k hk => hk.2.2) (.int .i64 a2)) (fun k hk => hk.2.2) (.int .i64 (a3 + 1)))
 clear BKgq BKgr HB HD0 HD1 HD2
 generalize (World.setCell (World.setCell (World.setCell (World.setCell w5_ ⟨gr, 0, none⟩ (.slice B0 l0.length d0)) ⟨gr, 1, none⟩ (.slice B2 r.length d2)) ⟨gr, 2, none⟩ (.int .i64 a2)) ⟨gr, 3, none⟩ (.int .i64 (a3 + 1))) = w6_ at nBKgq nBKgr nHB nHD0 nHD1 nHD2 ⊢
 have BKgq := a0_ nBKgq.out
 have BKgr := a0_ nBKgr.out
 have HD0 := a0_ nHD0.out
 clear nHD0
 have HD1 := a0_ nHD1.out
 clear nHD1
 have HD2 := a0_ nHD2.out
 clear nHD2
 have HB := a0_ nHB.out
 clear nBKgq nBKgr nHB
 refine bodyPost_ret (results_ct rfl _ _ gr 68 #[.slice B0 l0.length d0, .slice B2 r.length d2, .int .i64 a2, .int .i64 (a3 + 1)] (0, 0) _ rfl BKgr.out (Try.underlying68) rfl z6_) rfl ?_
 exact ⟨_, _, rfl, Rn.mk HD0.out (fun k hk => hk.1) HL0.out, Rn.mk HD2.out (fun k hk => hk.1) HL2.out, HB.out⟩
set_option maxHeartbeats 4000000 in
set_option maxRecDepth 100000 in
theorem qCut.calls (k : Nat) (A0 : Option Addr) (c0 : Nat) (l0 : List S51) (A1 : Option Addr) (c1 : Nat) (l1 : List S120) (a2 a3 : Int) (w : World) (hr0 : Kd.C k51 w A0 l0.length l0) (hc0 : l0.length ≤ c0) (hr1 : Kd.C k120 w A1 l1.length l1) (hc1 : l1.length ≤ c1) (hR : queue_Right.f k l0 l1 a2 a3 = some true) (hcl : queue_clone.f k l0 l1 a2 a3 = some (l0, l1, a2, a3)) (hln : l0.length ≤ 1000000) (ht : a2 < a3) :
  Calls Try.prog 19 #[.agg #[.slice A0 l0.length c0, .slice A1 l1.length c1, .int .i64 a2, .int .i64 a3]] w fun e w' => ∃ v0 v1 : Value, e = .returned (.tuple #[.agg #[v0, v1, .int .i64 a3, .int .i64 a3], .int .i64 0]) ∧ Rn k51 w w' v0 (l0 ++ [⟨a2, a3, l1⟩]) ∧ Rn k120 w w' v1 [] ∧ Below w.heap.size w w' := by
 have HR0 := a0_ hr0
 have HC0 := a0_ hc0
 have HR1 := a0_ hr1
 have HC1 := a0_ hc1
 have HRT := a0_ hR
 have HCL := a0_ hcl
 have HLN := a0_ hln
 clear hr0 hc0 hr1 hc1 hR hcl hln
 have HB := a0_ (Below.refl w.heap.size w)
 have ht1 : (a3 == a2) = false := beq_eq_false_iff_ne.2 z7_
 have eg1 : ∀ args w, (callFunc 51 args).run Try.prog w = .ok (.enter 51 args) w := enters_of Try.func51 z6_ rfl
 have eg2 : ∀ args w, (callFunc 53 args).run Try.prog w = .ok (.enter 53 args) w := enters_of Try.func53 z6_ rfl
 go_enter Try.func19, Try.ntmps19
 go_upto_block 0 with (first | ((with_reducible refine gate_dst (N := 1) rfl ?_); refine box_event ?hg (N := 1) ?hd (cs := #[.slice A0 l0.length c0, .slice A1 l1.length c1, .int .i64 a2, .int .i64 a3]) (t := 68) ?hr ?_; (case hd => rfl); (case hg => rfl); (case hr => exact z29_); intro gq hg w1_ hbox hb; have GEgq := a0_ (z152_ : w.heap.size ≤ gq); have BKgq := a0_ hbox; replace HB := a0_ (below_step HB.out hb); clear hb hbox hg) | ((with_reducible refine gate_dst (N := 2) rfl ?_); refine box_event ?hg (N := 2) ?hd (cs := #[.slice none 0 0, .slice none 0 0, .int .i64 0, .int .i64 0]) (t := 68) ?hr ?_; (case hd => rfl); (case hg => rfl); (case hr => exact z29_); intro gr hg w2_ hbox hb; have Lgq := blk_lt BKgq.out; have hngqgr : gq ≠ gr := (fun h => z7_); have hngrgq : gr ≠ gq := (fun h => z7_); replace BKgq := a0_ (blk_below BKgq.out hb); have GEgr := a0_ (z152_ : w.heap.size ≤ gr); have BKgr := a0_ hbox; replace HB := a0_ (below_step HB.out hb); clear hb hbox hg Lgq))
 have hcgq_0 : w2_.cell? ⟨gq, 0, none⟩ = some (.slice A0 l0.length c0) := (blk_cell BKgq.out 0).trans rfl
 have hfgq_0 := blk_frozen BKgq.out 0
 have hcgq_1 : w2_.cell? ⟨gq, 1, none⟩ = some (.slice A1 l1.length c1) := (blk_cell BKgq.out 1).trans rfl
 have hfgq_1 := blk_frozen BKgq.out 1
 have hcgq_2 : w2_.cell? ⟨gq, 2, none⟩ = some (.int .i64 a2) := (blk_cell BKgq.out 2).trans rfl
 have hfgq_2 := blk_frozen BKgq.out 2
 have hcgq_3 : w2_.cell? ⟨gq, 3, none⟩ = some (.int .i64 a3) := (blk_cell BKgq.out 3).trans rfl
 have hfgq_3 := blk_frozen BKgq.out 3
 have hcgr_0 : w2_.cell? ⟨gr, 0, none⟩ = some (.slice none 0 0) := (blk_cell BKgr.out 0).trans rfl
 have hfgr_0 := blk_frozen BKgr.out 0
 have hcgr_1 : w2_.cell? ⟨gr, 1, none⟩ = some (.slice none 0 0) := (blk_cell BKgr.out 1).trans rfl
 have hfgr_1 := blk_frozen BKgr.out 1
 have hcgr_2 : w2_.cell? ⟨gr, 2, none⟩ = some (.int .i64 0) := (blk_cell BKgr.out 2).trans rfl
 have hfgr_2 := blk_frozen BKgr.out 2
 have hcgr_3 : w2_.cell? ⟨gr, 3, none⟩ = some (.int .i64 0) := (blk_cell BKgr.out 3).trans rfl
 have hfgr_3 := blk_frozen BKgr.out 3
 go_upto_region 5 with (go_at_fn 51; refine (queue_Right.calls k A0 c0 l0 A1 c1 l1 a2 a3 true _ (Kd.C_below HR0.out HB.out) HC0.out (Kd.C_below HR1.out HB.out) HC1.out HRT.out).mono ?_; rintro e wr ⟨rfl, hb⟩; have LB_ := HB.out.size; have Lgq := blk_lt BKgq.out; have Lgr := blk_lt BKgr.out; clear hcgq_0 hfgq_0 hcgq_1 hfgq_1 hcgq_2 hfgq_2 hcgq_3 hfgq_3 hcgr_0 hfgr_0 hcgr_1 hfgr_1 hcgr_2 hfgr_2 hcgr_3 hfgr_3; replace BKgq := a0_ (blk_below BKgq.out hb); replace BKgr := a0_ (blk_below BKgr.out hb); replace HB := a0_ (below_step HB.out hb); have hcgq_0 : wr.cell? ⟨gq, 0, none⟩ = some (.slice A0 l0.length c0) := (blk_cell BKgq.out 0).trans rfl; have hfgq_0 := blk_frozen BKgq.out 0; have hcgq_1 : wr.cell? ⟨gq, 1, none⟩ = some (.slice A1 l1.length c1) := (blk_cell BKgq.out 1).trans rfl; have hfgq_1 := blk_frozen BKgq.out 1; have hcgq_2 : wr.cell? ⟨gq, 2, none⟩ = some (.int .i64 a2) := (blk_cell BKgq.out 2).trans rfl; have hfgq_2 := blk_frozen BKgq.out 2; have hcgq_3 : wr.cell? ⟨gq, 3, none⟩ = some (.int .i64 a3) := (blk_cell BKgq.out 3).trans rfl; have hfgq_3 := blk_frozen BKgq.out 3; have hcgr_0 : wr.cell? ⟨gr, 0, none⟩ = some (.slice none 0 0) := (blk_cell BKgr.out 0).trans rfl; have hfgr_0 := blk_frozen BKgr.out 0; have hcgr_1 : wr.cell? ⟨gr, 1, none⟩ = some (.slice none 0 0) := (blk_cell BKgr.out 1).trans rfl; have hfgr_1 := blk_frozen BKgr.out 1; have hcgr_2 : wr.cell? ⟨gr, 2, none⟩ = some (.int .i64 0) := (blk_cell BKgr.out 2).trans rfl; have hfgr_2 := blk_frozen BKgr.out 2; have hcgr_3 : wr.cell? ⟨gr, 3, none⟩ = some (.int .i64 0) := (blk_cell BKgr.out 3).trans rfl; have hfgr_3 := blk_frozen BKgr.out 3; clear hb LB_ Lgq Lgr)
 go_upto_region 6 with (go_at_fn 53; refine (queue_clone.calls k A0 c0 l0 A1 c1 l1 a2 a3 l0 l1 a2 a3 _ (Kd.C_below HR0.out HB.out) HC0.out (Kd.C_below HR1.out HB.out) HC1.out HCL.out).mono ?_; rintro e wc ⟨v0, v1, rfl, hv0, hv1, hb⟩; have LB_ := HB.out.size; have Lgq := blk_lt BKgq.out; have Lgr := blk_lt BKgr.out; clear hcgq_0 hfgq_0 hcgq_1 hfgq_1 hcgq_2 hfgq_2 hcgq_3 hfgq_3 hcgr_0 hfgr_0 hcgr_1 hfgr_1 hcgr_2 hfgr_2 hcgr_3 hfgr_3; replace BKgq := a0_ (blk_below BKgq.out hb); replace BKgr := a0_ (blk_below BKgr.out hb); replace HB := a0_ (below_step HB.out hb); have hcgq_0 : wc.cell? ⟨gq, 0, none⟩ = some (.slice A0 l0.length c0) := (blk_cell BKgq.out 0).trans rfl; have hfgq_0 := blk_frozen BKgq.out 0; have hcgq_1 : wc.cell? ⟨gq, 1, none⟩ = some (.slice A1 l1.length c1) := (blk_cell BKgq.out 1).trans rfl; have hfgq_1 := blk_frozen BKgq.out 1; have hcgq_2 : wc.cell? ⟨gq, 2, none⟩ = some (.int .i64 a2) := (blk_cell BKgq.out 2).trans rfl; have hfgq_2 := blk_frozen BKgq.out 2; have hcgq_3 : wc.cell? ⟨gq, 3, none⟩ = some (.int .i64 a3) := (blk_cell BKgq.out 3).trans rfl; have hfgq_3 := blk_frozen BKgq.out 3; have hcgr_0 : wc.cell? ⟨gr, 0, none⟩ = some (.slice none 0 0) := (blk_cell BKgr.out 0).trans rfl; have hfgr_0 := blk_frozen BKgr.out 0; have hcgr_1 : wc.cell? ⟨gr, 1, none⟩ = some (.slice none 0 0) := (blk_cell BKgr.out 1).trans rfl; have hfgr_1 := blk_frozen BKgr.out 1; have hcgr_2 : wc.cell? ⟨gr, 2, none⟩ = some (.int .i64 0) := (blk_cell BKgr.out 2).trans rfl; have hfgr_2 := blk_frozen BKgr.out 2; have hcgr_3 : wc.cell? ⟨gr, 3, none⟩ = some (.int .i64 0) := (blk_cell BKgr.out 3).trans rfl; have hfgr_3 := blk_frozen BKgr.out 3; obtain ⟨B0, d0, rfl⟩ := Kd.N_slice hv0; obtain ⟨B1, d1, rfl⟩ := Kd.R_slice hv1; have HN := a0_ (Kd.N_mono (ok' := (fun k => w.heap.size ≤ k ∧ k ≠ gq ∧ k ≠ gr)) (Kd.N_lower hv0 LB_) (fun k hk => ⟨z153_, (fun h => z153_), (fun h => z153_)⟩)); have HL1 := a0_ (Kd.R_reads' hv1).2.1; have HD1 := a0_ (Kd.F_mono (ok' := fun k => (fun k => w.heap.size ≤ k ∧ k ≠ gq ∧ k ≠ gr) k ∧ some k ≠ (Value.slice B0 l0.length d0).ownBlock) (Kd.R_F (Kd.R_tight rfl hv1)) (fun k hk => ⟨⟨z155_, (fun h => z155_), (fun h => z155_)⟩, fun h => (hv0.1 k h.symm).2 hk⟩)); clear hv0 hv1; clear hb LB_ Lgq Lgr)
 clear hcgq_0 hfgq_0 hcgq_1 hfgq_1 hcgq_2 hfgq_2 hcgq_3 hfgq_3 hcgr_0 hfgr_0 hcgr_1 hfgr_1 hcgr_2 hfgr_2 hcgr_3 hfgr_3
 have nBKgq := a0_ (blk_put (cs' := #[.slice B0 l0.length d0, .slice B1 l1.length d1, .int .i64 a2, .int .i64 a3]) (blk_put (cs' := #[.slice B0 l0.length d0, .slice B1 l1.length d1, .int .i64 a2, .int .i64 a3]) (blk_put (cs' := #[.slice B0 l0.length d0, .slice B1 l1.length d1, .int .i64 a2, .int .i64 a3]) (blk_put (cs' := #[.slice B0 l0.length d0, .slice A1 l1.length c1, .int .i64 a2, .int .i64 a3]) BKgq.out 0 _ rfl) 1 _ rfl) 2 _ rfl) 3 _ rfl)
 have nBKgr := a0_ (blk_far (p := ⟨gq, 3, none⟩) (blk_far (p := ⟨gq, 2, none⟩) (blk_far (p := ⟨gq, 1, none⟩) (blk_far (p := ⟨gq, 0, none⟩) BKgr.out hngrgq (.slice B0 l0.length d0)) hngrgq (.slice B1 l1.length d1)) hngrgq (.int .i64 a2)) hngrgq (.int .i64 a3))
 have nHB := a0_ (below_set (j := 3) (v := .int .i64 a3) (below_set (j := 2) (v := .int .i64 a2) (below_set (j := 1) (v := .slice B1 l1.length d1) (below_set (j := 0) (v := .slice B0 l0.length d0) HB.out GEgq.out) GEgq.out) GEgq.out) GEgq.out)
 have nHN := a0_ (Kd.N_far (p := ⟨gq, 3, none⟩) (Kd.N_far (p := ⟨gq, 2, none⟩) (Kd.N_far (p := ⟨gq, 1, none⟩) (Kd.N_far (p := ⟨gq, 0, none⟩) HN.out (fun k hk => hk.2.1) (.slice B0 l0.length d0)) (fun k hk => hk.2.1) (.slice B1 l1.length d1)) (fun k hk => hk.2.1) (.int .i64 a2)) (fun k hk => hk.2.1) (.int .i64 a3))
 have nHD1 := a0_ (Kd.F_far (p := ⟨gq, 3, none⟩) (Kd.F_far (p := ⟨gq, 2, none⟩) (Kd.F_far (p := ⟨gq, 1, none⟩) (Kd.F_far (p := ⟨gq, 0, none⟩) HD1.out (fun k hk => hk.1.2.1) (.slice B0 l0.length d0)) (fun k hk => hk.1.2.1) (.slice B1 l1.length d1)) (fun k hk => hk.1.2.1) (.int .i64 a2)) (fun k hk => hk.1.2.1) (.int .i64 a3))
 clear BKgq BKgr HB HN HD1
 generalize (World.setCell (World.setCell (World.setCell (World.setCell wc ⟨gq, 0, none⟩ (.slice B0 l0.length d0)) ⟨gq, 1, none⟩ (.slice B1 l1.length d1)) ⟨gq, 2, none⟩ (.int .i64 a2)) ⟨gq, 3, none⟩ (.int .i64 a3)) = w3_ at nBKgq nBKgr nHB nHN nHD1 ⊢
 have BKgq := a0_ nBKgq.out
 have BKgr := a0_ nBKgr.out
 have HN := a0_ nHN.out
 clear nHN
 have HD1 := a0_ nHD1.out
 clear nHD1
 have HB := a0_ nHB.out
 clear nBKgq nBKgr nHB
 have hcgq_0 : w3_.cell? ⟨gq, 0, none⟩ = some (.slice B0 l0.length d0) := (blk_cell BKgq.out 0).trans rfl
 have hfgq_0 := blk_frozen BKgq.out 0
 have hcgq_1 : w3_.cell? ⟨gq, 1, none⟩ = some (.slice B1 l1.length d1) := (blk_cell BKgq.out 1).trans rfl
 have hfgq_1 := blk_frozen BKgq.out 1
 have hcgq_2 : w3_.cell? ⟨gq, 2, none⟩ = some (.int .i64 a2) := (blk_cell BKgq.out 2).trans rfl
 have hfgq_2 := blk_frozen BKgq.out 2
 have hcgq_3 : w3_.cell? ⟨gq, 3, none⟩ = some (.int .i64 a3) := (blk_cell BKgq.out 3).trans rfl
 have hfgq_3 := blk_frozen BKgq.out 3
 have hcgr_0 : w3_.cell? ⟨gr, 0, none⟩ = some (.slice none 0 0) := (blk_cell BKgr.out 0).trans rfl
 have hfgr_0 := blk_frozen BKgr.out 0
 have hcgr_1 : w3_.cell? ⟨gr, 1, none⟩ = some (.slice none 0 0) := (blk_cell BKgr.out 1).trans rfl
 have hfgr_1 := blk_frozen BKgr.out 1
 have hcgr_2 : w3_.cell? ⟨gr, 2, none⟩ = some (.int .i64 0) := (blk_cell BKgr.out 2).trans rfl
 have hfgr_2 := blk_frozen BKgr.out 2
 have hcgr_3 : w3_.cell? ⟨gr, 3, none⟩ = some (.int .i64 0) := (blk_cell BKgr.out 3).trans rfl
 have hfgr_3 := blk_frozen BKgr.out 3
 have LQ := blk_lt BKgq.out
 have LR := blk_lt BKgr.out
 go_upto_region 7 with ((with_reducible refine gate_builtin (b := .append) (xs := #[.tmp 19, .tmp 27]) rfl ?_); at_builtin; refine Kd.N_append k51 (w0 := w) w.heap.size rfl (.tmp 19) (.tmp 27) 66 51 (.agg #[.int .i64 0, .int .i64 0, .slice none 0 0]) 40 rfl Try.underlying66 infoSet rfl (show 0 < k51.sz from z8_) z7_ (.slice B0 l0.length d0) l0 ⟨a2, a3, l1⟩ [.int .i64 a2, .int .i64 a3, .slice B1 l1.length d1] (fun k => w.heap.size ≤ k ∧ k ≠ gq ∧ k ≠ gr) (fun k => (fun k => w.heap.size ≤ k ∧ k ≠ gq ∧ k ≠ gr) k ∧ some k ≠ (Value.slice B0 l0.length d0).ownBlock) rfl rfl (k51_mkF _ _ ⟨a2, a3, l1⟩ HL1.out HD1.out) (fun k hk => hk) (fun k hk => ⟨Nat.le_trans (below_size HB.out) hk, fun h => z7_, fun h => z7_⟩) HN.out HB.out (below_size HB.out) (by have := HLN.out; omega) ?_; intro v6 w6 hN6 hB6 hg6 _; have NB := a0_ hN6; have BK1 := a0_ (blk_grown BKgq.out hg6 (Kd.N_away HN.out (fun k hk => hk.2.1))); have BK2 := a0_ (blk_grown BKgr.out hg6 (Kd.N_away HN.out (fun k hk => hk.2.2))); have HB6 := a0_ hB6; clear hcgq_0 hfgq_0 hcgq_1 hfgq_1 hcgq_2 hfgq_2 hcgq_3 hfgq_3 hcgr_0 hfgr_0 hcgr_1 hfgr_1 hcgr_2 hfgr_2 hcgr_3 hfgr_3; have hcgq_0 : w6.cell? ⟨gq, 0, none⟩ = some (.slice B0 l0.length d0) := (blk_cell BK1.out 0).trans rfl; have hfgq_0 := blk_frozen BK1.out 0; have hcgq_1 : w6.cell? ⟨gq, 1, none⟩ = some (.slice B1 l1.length d1) := (blk_cell BK1.out 1).trans rfl; have hfgq_1 := blk_frozen BK1.out 1; have hcgq_2 : w6.cell? ⟨gq, 2, none⟩ = some (.int .i64 a2) := (blk_cell BK1.out 2).trans rfl; have hfgq_2 := blk_frozen BK1.out 2; have hcgq_3 : w6.cell? ⟨gq, 3, none⟩ = some (.int .i64 a3) := (blk_cell BK1.out 3).trans rfl; have hfgq_3 := blk_frozen BK1.out 3; have hcgr_0 : w6.cell? ⟨gr, 0, none⟩ = some (.slice none 0 0) := (blk_cell BK2.out 0).trans rfl; have hfgr_0 := blk_frozen BK2.out 0; have hcgr_1 : w6.cell? ⟨gr, 1, none⟩ = some (.slice none 0 0) := (blk_cell BK2.out 1).trans rfl; have hfgr_1 := blk_frozen BK2.out 1; have hcgr_2 : w6.cell? ⟨gr, 2, none⟩ = some (.int .i64 0) := (blk_cell BK2.out 2).trans rfl; have hfgr_2 := blk_frozen BK2.out 2; have hcgr_3 : w6.cell? ⟨gr, 3, none⟩ = some (.int .i64 0) := (blk_cell BK2.out 3).trans rfl; have hfgr_3 := blk_frozen BK2.out 3; obtain ⟨B6, d6, e6⟩ := Kd.N_slice NB.out; rw [List.length_append] at e6; replace e6 : v6 = .slice B6 (l0.length + 1) d6 := e6; subst e6; clear hN6 hB6 hg6)
 clear hcgq_0 hfgq_0 hcgq_1 hfgq_1 hcgq_2 hfgq_2 hcgq_3 hfgq_3 hcgr_0 hfgr_0 hcgr_1 hfgr_1 hcgr_2 hfgr_2 hcgr_3 hfgr_3
 have BKgq := a0_ BK1.out
 have BKgr := a0_ BK2.out
 have HB := a0_ HB6.out
 clear BK1 BK2 HB6 HN HD1 LQ LR
 have nBKgq := a0_ (blk_put (cs' := #[.slice B6 (l0.length + 1) d6, .slice B1 l1.length d1, .int .i64 a2, .int .i64 a3]) BKgq.out 0 _ rfl)
 have nBKgr := a0_ (blk_far (p := ⟨gq, 0, none⟩) BKgr.out hngrgq (.slice B6 (l0.length + 1) d6))
 have nHB := a0_ (below_set (j := 0) (v := .slice B6 (l0.length + 1) d6) HB.out GEgq.out)
 have nNB := a0_ (Kd.N_far (p := ⟨gq, 0, none⟩) NB.out (fun k hk => hk.2.1) (.slice B6 (l0.length + 1) d6))
 clear BKgq BKgr HB NB
 generalize (World.setCell w6 ⟨gq, 0, none⟩ (.slice B6 (l0.length + 1) d6)) = w4_ at nBKgq nBKgr nHB nNB ⊢
 have BKgq := a0_ nBKgq.out
 have BKgr := a0_ nBKgr.out
 have NB := a0_ nNB.out
 clear nNB
 have HB := a0_ nHB.out
 clear nBKgq nBKgr nHB
 have hcgq_0 : w4_.cell? ⟨gq, 0, none⟩ = some (.slice B6 (l0.length + 1) d6) := (blk_cell BKgq.out 0).trans rfl
 have hfgq_0 := blk_frozen BKgq.out 0
 have hcgq_1 : w4_.cell? ⟨gq, 1, none⟩ = some (.slice B1 l1.length d1) := (blk_cell BKgq.out 1).trans rfl
 have hfgq_1 := blk_frozen BKgq.out 1
 have hcgq_2 : w4_.cell? ⟨gq, 2, none⟩ = some (.int .i64 a2) := (blk_cell BKgq.out 2).trans rfl
 have hfgq_2 := blk_frozen BKgq.out 2
 have hcgq_3 : w4_.cell? ⟨gq, 3, none⟩ = some (.int .i64 a3) := (blk_cell BKgq.out 3).trans rfl
 have hfgq_3 := blk_frozen BKgq.out 3
 have hcgr_0 : w4_.cell? ⟨gr, 0, none⟩ = some (.slice none 0 0) := (blk_cell BKgr.out 0).trans rfl
 have hfgr_0 := blk_frozen BKgr.out 0
 have hcgr_1 : w4_.cell? ⟨gr, 1, none⟩ = some (.slice none 0 0) := (blk_cell BKgr.out 1).trans rfl
 have hfgr_1 := blk_frozen BKgr.out 1
 have hcgr_2 : w4_.cell? ⟨gr, 2, none⟩ = some (.int .i64 0) := (blk_cell BKgr.out 2).trans rfl
 have hfgr_2 := blk_frozen BKgr.out 2
 have hcgr_3 : w4_.cell? ⟨gr, 3, none⟩ = some (.int .i64 0) := (blk_cell BKgr.out 3).trans rfl
 have hfgr_3 := blk_frozen BKgr.out 3
 go_upto_region 8 with fail
 clear hcgq_0 hfgq_0 hcgq_1 hfgq_1 hcgq_2 hfgq_2 hcgq_3 hfgq_3 hcgr_0 hfgr_0 hcgr_1 hfgr_1 hcgr_2 hfgr_2 hcgr_3 hfgr_3
 have nBKgq := a0_ (blk_put (cs' := #[.slice B6 (l0.length + 1) d6, .slice none 0 0, .int .i64 a3, .int .i64 a3]) (blk_put (cs' := #[.slice B6 (l0.length + 1) d6, .slice B1 l1.length d1, .int .i64 a3, .int .i64 a3]) BKgq.out 2 _ rfl) 1 _ rfl)
 have nBKgr := a0_ (blk_far (p := ⟨gq, 1, none⟩) (blk_far (p := ⟨gq, 2, none⟩) BKgr.out hngrgq (.int .i64 a3)) hngrgq (.slice none 0 0))
 have nHB := a0_ (below_set (j := 1) (v := .slice none 0 0) (below_set (j := 2) (v := .int .i64 a3) HB.out GEgq.out) GEgq.out)
 have nNB := a0_ (Kd.N_far (p := ⟨gq, 1, none⟩) (Kd.N_far (p := ⟨gq, 2, none⟩) NB.out (fun k hk => hk.2.1) (.int .i64 a3)) (fun k hk => hk.2.1) (.slice none 0 0))
 clear BKgq BKgr HB NB
 generalize (World.setCell (World.setCell w4_ ⟨gq, 2, none⟩ (.int .i64 a3)) ⟨gq, 1, none⟩ (.slice none 0 0)) = w5_ at nBKgq nBKgr nHB nNB ⊢
 have BKgq := a0_ nBKgq.out
 have BKgr := a0_ nBKgr.out
 have NB := a0_ nNB.out
 clear nNB
 have HB := a0_ nHB.out
 clear nBKgq nBKgr nHB
 have hcgq_0 : w5_.cell? ⟨gq, 0, none⟩ = some (.slice B6 (l0.length + 1) d6) := (blk_cell BKgq.out 0).trans rfl
 have hfgq_0 := blk_frozen BKgq.out 0
 have hcgq_1 : w5_.cell? ⟨gq, 1, none⟩ = some (.slice none 0 0) := (blk_cell BKgq.out 1).trans rfl
 have hfgq_1 := blk_frozen BKgq.out 1
 have hcgq_2 : w5_.cell? ⟨gq, 2, none⟩ = some (.int .i64 a3) := (blk_cell BKgq.out 2).trans rfl
 have hfgq_2 := blk_frozen BKgq.out 2
 have hcgq_3 : w5_.cell? ⟨gq, 3, none⟩ = some (.int .i64 a3) := (blk_cell BKgq.out 3).trans rfl
 have hfgq_3 := blk_frozen BKgq.out 3
 have hcgr_0 : w5_.cell? ⟨gr, 0, none⟩ = some (.slice none 0 0) := (blk_cell BKgr.out 0).trans rfl
 have hfgr_0 := blk_frozen BKgr.out 0
 have hcgr_1 : w5_.cell? ⟨gr, 1, none⟩ = some (.slice none 0 0) := (blk_cell BKgr.out 1).trans rfl
 have hfgr_1 := blk_frozen BKgr.out 1
 have hcgr_2 : w5_.cell? ⟨gr, 2, none⟩ = some (.int .i64 0) := (blk_cell BKgr.out 2).trans rfl
 have hfgr_2 := blk_frozen BKgr.out 2
 have hcgr_3 : w5_.cell? ⟨gr, 3, none⟩ = some (.int .i64 0) := (blk_cell BKgr.out 3).trans rfl
 have hfgr_3 := blk_frozen BKgr.out 3
 go_wp2
 clear hcgq_0 hfgq_0 hcgq_1 hfgq_1 hcgq_2 hfgq_2 hcgq_3 hfgq_3 hcgr_0 hfgr_0 hcgr_1 hfgr_1 hcgr_2 hfgr_2 hcgr_3 hfgr_3
 have nBKgr := a0_ (blk_put (cs' := #[.slice B6 (l0.length + 1) d6, .slice none 0 0, .int .i64 a3, .int .i64 a3]) (blk_put (cs' := #[.slice B6 (l0.length + 1) d6, .slice none 0 0, .int .i64 a3, .int .i64 0]) (blk_put (cs' := #[.slice B6 (l0.length + 1) d6, .slice none 0 0, .int .i64 0, .int .i64 0]) (blk_put (cs' := #[.slice B6 (l0.length + 1) d6, .slice none 0 0, .int .i64 0, .int .i64 0]) BKgr.out 0 _ rfl) 1 _ rfl) 2 _ rfl) 3 _ rfl)
 have nBKgq := a0_ (blk_far (p := ⟨gr, 3, none⟩) (blk_far (p := ⟨gr, 2, none⟩) (blk_far (p := ⟨gr, 1, none⟩) (blk_far (p := ⟨gr, 0, none⟩) BKgq.out hngqgr (.slice B6 (l0.length + 1) d6)) hngqgr (.slice none 0 0)) hngqgr (.int .i64 a3)) hngqgr (.int .i64 a3))
 have nHB := a0_ (below_set (j := 3) (v := .int .i64 a3) (below_set (j := 2) (v := .int .i64 a3) (below_set (j := 1) (v := .slice none 0 0) (below_set (j := 0) (v := .slice B6 (l0.length + 1) d6) HB.out GEgr.out) GEgr.out) GEgr.out) GEgr.out)
 have nNB := a0_ (Kd.N_far (p := ⟨gr, 3, none⟩) (Kd.N_far (p := ⟨gr, 2, none⟩) (Kd.N_far (p := ⟨gr, 1, none⟩) (Kd.N_far (p := ⟨gr, 0, none⟩) NB.out (fun k hk => hk.2.2) (.slice B6 (l0.length + 1) d6)) (fun k hk => hk.2.2) (.slice none 0 0)) (fun k hk => hk.2.2) (.int .i64 a3)) (fun k hk => hk.2.2) (.int .i64 a3))
 clear BKgq BKgr HB NB
 generalize (World.setCell (World.setCell (World.setCell (World.setCell w5_ ⟨gr, 0, none⟩ (.slice B6 (l0.length + 1) d6)) ⟨gr, 1, none⟩ (.slice none 0 0)) ⟨gr, 2, none⟩ (.int .i64 a3)) ⟨gr, 3, none⟩ (.int .i64 a3)) = w6_ at nBKgq nBKgr nHB nNB ⊢
 have BKgq := a0_ nBKgq.out
 have BKgr := a0_ nBKgr.out
 have NB := a0_ nNB.out
 clear nNB
 have HB := a0_ nHB.out
 clear nBKgq nBKgr nHB
 refine bodyPost_ret (results_ct rfl _ _ gr 68 #[.slice B6 (l0.length + 1) d6, .slice none 0 0, .int .i64 a3, .int .i64 a3] (0, 0) _ rfl BKgr.out (Try.underlying68) rfl z6_) rfl ?_
 exact ⟨_, _, rfl, ⟨B6, d6, by rw [List.length_append]; rfl, by have := (Kd.N_reads' NB.out).2.1; rw [List.length_append]; exact this, (by rw [List.length_append]; exact Kd.F_mono (Kd.N_F NB.out) (fun k hk => hk.1))⟩, Rn.nil _ _ _, HB.out⟩
set_option maxHeartbeats 4000000 in
set_option maxRecDepth 100000 in
theorem qDone.calls (k : Nat) (A0 : Option Addr) (c0 : Nat) (l0 : List S51) (A1 : Option Addr) (c1 : Nat) (l1 : List S120) (a2 a3 : Int) (seq : Int) (w : World) (hr0 : Kd.C k51 w A0 l0.length l0) (hc0 : l0.length ≤ c0) (hr1 : Kd.C k120 w A1 l1.length l1) (hc1 : l1.length ≤ c1) (hR : queue_Right.f k l0 l1 a2 a3 = some true) (hcl : queue_clone.f k l0 l1 a2 a3 = some (l0, l1, a2, a3)) :
  Calls Try.prog 20 #[.agg #[.slice A0 l0.length c0, .slice A1 l1.length c1, .int .i64 a2, .int .i64 a3], .int .i64 seq] w fun e w' => ∃ v0 v1 : Value, e = .returned (.tuple #[.agg #[v0, v1, .int .i64 a2, .int .i64 a3], .int .i64 0]) ∧ Rn k51 w w' v0 (l0.filter fun s => !decide (s.f1 ≤ seq)) ∧ Rn k120 w w' v1 l1 ∧ Below w.heap.size w w' := by
 have HR0 := a0_ hr0
 have HC0 := a0_ hc0
 have HR1 := a0_ hr1
 have HC1 := a0_ hc1
 have HRT := a0_ hR
 have HCL := a0_ hcl
 clear hr0 hc0 hr1 hc1 hR hcl
 have HB := a0_ (Below.refl w.heap.size w)
 have eg1 : ∀ args w, (callFunc 51 args).run Try.prog w = .ok (.enter 51 args) w := enters_of Try.func51 z6_ rfl
 have eg2 : ∀ args w, (callFunc 53 args).run Try.prog w = .ok (.enter 53 args) w := enters_of Try.func53 z6_ rfl
 have eg3 : ∀ args w, (callFunc 55 args).run Try.prog w = .ok (.enter 55 args) w := enters_of Try.func55 z6_ rfl
 go_enter Try.func20, Try.ntmps20
 go_upto_region 1 with (first | ((with_reducible refine gate_dst (N := 2) rfl ?_); refine box_event ?hg (N := 2) ?hd (cs := #[.slice A0 l0.length c0, .slice A1 l1.length c1, .int .i64 a2, .int .i64 a3]) (t := 68) ?hr ?_; (case hd => rfl); (case hg => rfl); (case hr => exact z29_); intro gq hg w1_ hbox hb; have GEgq := a0_ (z152_ : w.heap.size ≤ gq); have BKgq := a0_ hbox; replace HB := a0_ (below_step HB.out hb); clear hb hbox hg) | ((with_reducible refine gate_dst (N := 3) rfl ?_); refine box_event ?hg (N := 3) ?hd (cs := #[.int .i64 seq]) (t := 3) ?hr ?_; (case hd => rfl); (case hg => rfl); (case hr => exact z29_); intro gs hg w2_ hbox hb; have Lgq := blk_lt BKgq.out; have hngqgs : gq ≠ gs := (fun h => z7_); have hngsgq : gs ≠ gq := (fun h => z7_); replace BKgq := a0_ (blk_below BKgq.out hb); have GEgs := a0_ (z152_ : w.heap.size ≤ gs); have BKgs := a0_ hbox; replace HB := a0_ (below_step HB.out hb); clear hb hbox hg Lgq) | ((with_reducible refine gate_dst (N := 4) rfl ?_); refine box_event ?hg (N := 4) ?hd (cs := #[.slice none 0 0, .slice none 0 0, .int .i64 0, .int .i64 0]) (t := 68) ?hr ?_; (case hd => rfl); (case hg => rfl); (case hr => exact z29_); intro gr hg w3_ hbox hb; have Lgq := blk_lt BKgq.out; have hngqgr : gq ≠ gr := (fun h => z7_); have hngrgq : gr ≠ gq := (fun h => z7_); replace BKgq := a0_ (blk_below BKgq.out hb); have Lgs := blk_lt BKgs.out; have hngsgr : gs ≠ gr := (fun h => z7_); have hngrgs : gr ≠ gs := (fun h => z7_); replace BKgs := a0_ (blk_below BKgs.out hb); have GEgr := a0_ (z152_ : w.heap.size ≤ gr); have BKgr := a0_ hbox; replace HB := a0_ (below_step HB.out hb); clear hb hbox hg Lgq Lgs))
 have hcgq_0 : w3_.cell? ⟨gq, 0, none⟩ = some (.slice A0 l0.length c0) := (blk_cell BKgq.out 0).trans rfl
 have hfgq_0 := blk_frozen BKgq.out 0
 have hcgq_1 : w3_.cell? ⟨gq, 1, none⟩ = some (.slice A1 l1.length c1) := (blk_cell BKgq.out 1).trans rfl
 have hfgq_1 := blk_frozen BKgq.out 1
 have hcgq_2 : w3_.cell? ⟨gq, 2, none⟩ = some (.int .i64 a2) := (blk_cell BKgq.out 2).trans rfl
 have hfgq_2 := blk_frozen BKgq.out 2
 have hcgq_3 : w3_.cell? ⟨gq, 3, none⟩ = some (.int .i64 a3) := (blk_cell BKgq.out 3).trans rfl
 have hfgq_3 := blk_frozen BKgq.out 3
 have hcgs_0 : w3_.cell? ⟨gs, 0, none⟩ = some (.int .i64 seq) := (blk_cell BKgs.out 0).trans rfl
 have hfgs_0 := blk_frozen BKgs.out 0
 have hcgr_0 : w3_.cell? ⟨gr, 0, none⟩ = some (.slice none 0 0) := (blk_cell BKgr.out 0).trans rfl
 have hfgr_0 := blk_frozen BKgr.out 0
 have hcgr_1 : w3_.cell? ⟨gr, 1, none⟩ = some (.slice none 0 0) := (blk_cell BKgr.out 1).trans rfl
 have hfgr_1 := blk_frozen BKgr.out 1
 have hcgr_2 : w3_.cell? ⟨gr, 2, none⟩ = some (.int .i64 0) := (blk_cell BKgr.out 2).trans rfl
 have hfgr_2 := blk_frozen BKgr.out 2
 have hcgr_3 : w3_.cell? ⟨gr, 3, none⟩ = some (.int .i64 0) := (blk_cell BKgr.out 3).trans rfl
 have hfgr_3 := blk_frozen BKgr.out 3
 go_upto_region 3 with (go_at_fn 51; refine (queue_Right.calls k A0 c0 l0 A1 c1 l1 a2 a3 true _ (Kd.C_below HR0.out HB.out) HC0.out (Kd.C_below HR1.out HB.out) HC1.out HRT.out).mono ?_; rintro e wr ⟨rfl, hb⟩; have LB_ := HB.out.size; have Lgq := blk_lt BKgq.out; have Lgs := blk_lt BKgs.out; have Lgr := blk_lt BKgr.out; clear hcgq_0 hfgq_0 hcgq_1 hfgq_1 hcgq_2 hfgq_2 hcgq_3 hfgq_3 hcgs_0 hfgs_0 hcgr_0 hfgr_0 hcgr_1 hfgr_1 hcgr_2 hfgr_2 hcgr_3 hfgr_3; replace BKgq := a0_ (blk_below BKgq.out hb); replace BKgs := a0_ (blk_below BKgs.out hb); replace BKgr := a0_ (blk_below BKgr.out hb); replace HB := a0_ (below_step HB.out hb); have hcgq_0 : wr.cell? ⟨gq, 0, none⟩ = some (.slice A0 l0.length c0) := (blk_cell BKgq.out 0).trans rfl; have hfgq_0 := blk_frozen BKgq.out 0; have hcgq_1 : wr.cell? ⟨gq, 1, none⟩ = some (.slice A1 l1.length c1) := (blk_cell BKgq.out 1).trans rfl; have hfgq_1 := blk_frozen BKgq.out 1; have hcgq_2 : wr.cell? ⟨gq, 2, none⟩ = some (.int .i64 a2) := (blk_cell BKgq.out 2).trans rfl; have hfgq_2 := blk_frozen BKgq.out 2; have hcgq_3 : wr.cell? ⟨gq, 3, none⟩ = some (.int .i64 a3) := (blk_cell BKgq.out 3).trans rfl; have hfgq_3 := blk_frozen BKgq.out 3; have hcgs_0 : wr.cell? ⟨gs, 0, none⟩ = some (.int .i64 seq) := (blk_cell BKgs.out 0).trans rfl; have hfgs_0 := blk_frozen BKgs.out 0; have hcgr_0 : wr.cell? ⟨gr, 0, none⟩ = some (.slice none 0 0) := (blk_cell BKgr.out 0).trans rfl; have hfgr_0 := blk_frozen BKgr.out 0; have hcgr_1 : wr.cell? ⟨gr, 1, none⟩ = some (.slice none 0 0) := (blk_cell BKgr.out 1).trans rfl; have hfgr_1 := blk_frozen BKgr.out 1; have hcgr_2 : wr.cell? ⟨gr, 2, none⟩ = some (.int .i64 0) := (blk_cell BKgr.out 2).trans rfl; have hfgr_2 := blk_frozen BKgr.out 2; have hcgr_3 : wr.cell? ⟨gr, 3, none⟩ = some (.int .i64 0) := (blk_cell BKgr.out 3).trans rfl; have hfgr_3 := blk_frozen BKgr.out 3; clear hb LB_ Lgq Lgs Lgr)
 go_upto_region 4 with (go_at_fn 53; refine (queue_clone.calls k A0 c0 l0 A1 c1 l1 a2 a3 l0 l1 a2 a3 _ (Kd.C_below HR0.out HB.out) HC0.out (Kd.C_below HR1.out HB.out) HC1.out HCL.out).mono ?_; rintro e wc ⟨v0, v1, rfl, hv0, hv1, hb⟩; have LB_ := HB.out.size; have Lgq := blk_lt BKgq.out; have Lgs := blk_lt BKgs.out; have Lgr := blk_lt BKgr.out; clear hcgq_0 hfgq_0 hcgq_1 hfgq_1 hcgq_2 hfgq_2 hcgq_3 hfgq_3 hcgs_0 hfgs_0 hcgr_0 hfgr_0 hcgr_1 hfgr_1 hcgr_2 hfgr_2 hcgr_3 hfgr_3; replace BKgq := a0_ (blk_below BKgq.out hb); replace BKgs := a0_ (blk_below BKgs.out hb); replace BKgr := a0_ (blk_below BKgr.out hb); replace HB := a0_ (below_step HB.out hb); have hcgq_0 : wc.cell? ⟨gq, 0, none⟩ = some (.slice A0 l0.length c0) := (blk_cell BKgq.out 0).trans rfl; have hfgq_0 := blk_frozen BKgq.out 0; have hcgq_1 : wc.cell? ⟨gq, 1, none⟩ = some (.slice A1 l1.length c1) := (blk_cell BKgq.out 1).trans rfl; have hfgq_1 := blk_frozen BKgq.out 1; have hcgq_2 : wc.cell? ⟨gq, 2, none⟩ = some (.int .i64 a2) := (blk_cell BKgq.out 2).trans rfl; have hfgq_2 := blk_frozen BKgq.out 2; have hcgq_3 : wc.cell? ⟨gq, 3, none⟩ = some (.int .i64 a3) := (blk_cell BKgq.out 3).trans rfl; have hfgq_3 := blk_frozen BKgq.out 3; have hcgs_0 : wc.cell? ⟨gs, 0, none⟩ = some (.int .i64 seq) := (blk_cell BKgs.out 0).trans rfl; have hfgs_0 := blk_frozen BKgs.out 0; have hcgr_0 : wc.cell? ⟨gr, 0, none⟩ = some (.slice none 0 0) := (blk_cell BKgr.out 0).trans rfl; have hfgr_0 := blk_frozen BKgr.out 0; have hcgr_1 : wc.cell? ⟨gr, 1, none⟩ = some (.slice none 0 0) := (blk_cell BKgr.out 1).trans rfl; have hfgr_1 := blk_frozen BKgr.out 1; have hcgr_2 : wc.cell? ⟨gr, 2, none⟩ = some (.int .i64 0) := (blk_cell BKgr.out 2).trans rfl; have hfgr_2 := blk_frozen BKgr.out 2; have hcgr_3 : wc.cell? ⟨gr, 3, none⟩ = some (.int .i64 0) := (blk_cell BKgr.out 3).trans rfl; have hfgr_3 := blk_frozen BKgr.out 3; obtain ⟨B0, d0, rfl⟩ := Kd.N_slice hv0; obtain ⟨B1, d1, rfl⟩ := Kd.R_slice hv1; have HN := a0_ (Kd.N_mono (ok' := (fun k => w.heap.size ≤ k ∧ k ≠ gq ∧ k ≠ gs ∧ k ≠ gr)) (Kd.N_lower hv0 LB_) (fun k hk => ⟨z153_, (fun h => z153_), (fun h => z153_), (fun h => z153_)⟩)); have HL1 := a0_ (Kd.R_reads' hv1).2.1; have HD1 := a0_ (Kd.F_mono (ok' := fun k => (fun k => w.heap.size ≤ k ∧ k ≠ gq ∧ k ≠ gs ∧ k ≠ gr) k ∧ some k ≠ (Value.slice B0 l0.length d0).ownBlock) (Kd.R_F (Kd.R_tight rfl hv1)) (fun k hk => ⟨⟨z155_, (fun h => z155_), (fun h => z155_), (fun h => z155_)⟩, fun h => (hv0.1 k h.symm).2 hk⟩)); clear hv0 hv1; clear hb LB_ Lgq Lgs Lgr)
 clear hcgq_0 hfgq_0 hcgq_1 hfgq_1 hcgq_2 hfgq_2 hcgq_3 hfgq_3 hcgs_0 hfgs_0 hcgr_0 hfgr_0 hcgr_1 hfgr_1 hcgr_2 hfgr_2 hcgr_3 hfgr_3
 have nBKgq := a0_ (blk_put (cs' := #[.slice B0 l0.length d0, .slice B1 l1.length d1, .int .i64 a2, .int .i64 a3]) (blk_put (cs' := #[.slice B0 l0.length d0, .slice B1 l1.length d1, .int .i64 a2, .int .i64 a3]) (blk_put (cs' := #[.slice B0 l0.length d0, .slice B1 l1.length d1, .int .i64 a2, .int .i64 a3]) (blk_put (cs' := #[.slice B0 l0.length d0, .slice A1 l1.length c1, .int .i64 a2, .int .i64 a3]) BKgq.out 0 _ rfl) 1 _ rfl) 2 _ rfl) 3 _ rfl)
 have nBKgs := a0_ (blk_far (p := ⟨gq, 3, none⟩) (blk_far (p := ⟨gq, 2, none⟩) (blk_far (p := ⟨gq, 1, none⟩) (blk_far (p := ⟨gq, 0, none⟩) BKgs.out hngsgq (.slice B0 l0.length d0)) hngsgq (.slice B1 l1.length d1)) hngsgq (.int .i64 a2)) hngsgq (.int .i64 a3))
 have nBKgr := a0_ (blk_far (p := ⟨gq, 3, none⟩) (blk_far (p := ⟨gq, 2, none⟩) (blk_far (p := ⟨gq, 1, none⟩) (blk_far (p := ⟨gq, 0, none⟩) BKgr.out hngrgq (.slice B0 l0.length d0)) hngrgq (.slice B1 l1.length d1)) hngrgq (.int .i64 a2)) hngrgq (.int .i64 a3))
 have nHB := a0_ (below_set (j := 3) (v := .int .i64 a3) (below_set (j := 2) (v := .int .i64 a2) (below_set (j := 1) (v := .slice B1 l1.length d1) (below_set (j := 0) (v := .slice B0 l0.length d0) HB.out GEgq.out) GEgq.out) GEgq.out) GEgq.out)
 have nHN := a0_ (Kd.N_far (p := ⟨gq, 3, none⟩) (Kd.N_far (p := ⟨gq, 2, none⟩) (Kd.N_far (p := ⟨gq, 1, none⟩) (Kd.N_far (p := ⟨gq, 0, none⟩) HN.out (fun k hk => hk.2.1) (.slice B0 l0.length d0)) (fun k hk => hk.2.1) (.slice B1 l1.length d1)) (fun k hk => hk.2.1) (.int .i64 a2)) (fun k hk => hk.2.1) (.int .i64 a3))
 have nHD1 := a0_ (Kd.F_far (p := ⟨gq, 3, none⟩) (Kd.F_far (p := ⟨gq, 2, none⟩) (Kd.F_far (p := ⟨gq, 1, none⟩) (Kd.F_far (p := ⟨gq, 0, none⟩) HD1.out (fun k hk => hk.1.2.1) (.slice B0 l0.length d0)) (fun k hk => hk.1.2.1) (.slice B1 l1.length d1)) (fun k hk => hk.1.2.1) (.int .i64 a2)) (fun k hk => hk.1.2.1) (.int .i64 a3))
 clear BKgq BKgs BKgr HB HN HD1
 generalize (World.setCell (World.setCell (World.setCell (World.setCell wc ⟨gq, 0, none⟩ (.slice B0 l0.length d0)) ⟨gq, 1, none⟩ (.slice B1 l1.length d1)) ⟨gq, 2, none⟩ (.int .i64 a2)) ⟨gq, 3, none⟩ (.int .i64 a3)) = w4_ at nBKgq nBKgs nBKgr nHB nHN nHD1 ⊢
 have BKgq := a0_ nBKgq.out
 have BKgs := a0_ nBKgs.out
 have BKgr := a0_ nBKgr.out
 have HN := a0_ nHN.out
 clear nHN
 have HD1 := a0_ nHD1.out
 clear nHD1
 have HB := a0_ nHB.out
 clear nBKgq nBKgs nBKgr nHB
 have hcgq_0 : w4_.cell? ⟨gq, 0, none⟩ = some (.slice B0 l0.length d0) := (blk_cell BKgq.out 0).trans rfl
 have hfgq_0 := blk_frozen BKgq.out 0
 have hcgq_1 : w4_.cell? ⟨gq, 1, none⟩ = some (.slice B1 l1.length d1) := (blk_cell BKgq.out 1).trans rfl
 have hfgq_1 := blk_frozen BKgq.out 1
 have hcgq_2 : w4_.cell? ⟨gq, 2, none⟩ = some (.int .i64 a2) := (blk_cell BKgq.out 2).trans rfl
 have hfgq_2 := blk_frozen BKgq.out 2
 have hcgq_3 : w4_.cell? ⟨gq, 3, none⟩ = some (.int .i64 a3) := (blk_cell BKgq.out 3).trans rfl
 have hfgq_3 := blk_frozen BKgq.out 3
 have hcgs_0 : w4_.cell? ⟨gs, 0, none⟩ = some (.int .i64 seq) := (blk_cell BKgs.out 0).trans rfl
 have hfgs_0 := blk_frozen BKgs.out 0
 have hcgr_0 : w4_.cell? ⟨gr, 0, none⟩ = some (.slice none 0 0) := (blk_cell BKgr.out 0).trans rfl
 have hfgr_0 := blk_frozen BKgr.out 0
 have hcgr_1 : w4_.cell? ⟨gr, 1, none⟩ = some (.slice none 0 0) := (blk_cell BKgr.out 1).trans rfl
 have hfgr_1 := blk_frozen BKgr.out 1
 have hcgr_2 : w4_.cell? ⟨gr, 2, none⟩ = some (.int .i64 0) := (blk_cell BKgr.out 2).trans rfl
 have hfgr_2 := blk_frozen BKgr.out 2
 have hcgr_3 : w4_.cell? ⟨gr, 3, none⟩ = some (.int .i64 0) := (blk_cell BKgr.out 3).trans rfl
 have hfgr_3 := blk_frozen BKgr.out 3
 go_upto_region 5 with (go_at_fn 55; refine (delSets.calls (.slice B0 l0.length d0) l0 gs seq w.heap.size (fun k => w.heap.size ≤ k ∧ k ≠ gq ∧ k ≠ gs ∧ k ≠ gr) w4_ hcgs_0 (fun k hk => hk.2.2.1) HN.out).mono ?_; rintro e wd ⟨v1, rfl, hN1, hg⟩; have NB := a0_ hN1; obtain ⟨B6, d6, e6⟩ := Kd.N_slice NB.out; subst e6; have BLgq := a0_ (blk_grown BKgq.out hg (Kd.N_away HN.out (fun k hk => hk.2.1))); have BLgs := a0_ (blk_grown BKgs.out hg (Kd.N_away HN.out (fun k hk => hk.2.2.1))); have BLgr := a0_ (blk_grown BKgr.out hg (Kd.N_away HN.out (fun k hk => hk.2.2.2))); replace HD1 := a0_ (Kd.F_grown HD1.out hg (fun k hk => hk.2)); replace HB := a0_ (HB.out.grown hg (below_size HB.out) (Kd.N_base HN.out)); clear hcgq_0 hfgq_0 hcgq_1 hfgq_1 hcgq_2 hfgq_2 hcgq_3 hfgq_3 hcgs_0 hfgs_0 hcgr_0 hfgr_0 hcgr_1 hfgr_1 hcgr_2 hfgr_2 hcgr_3 hfgr_3 BKgq BKgs BKgr; have BKgq := a0_ BLgq.out; have BKgs := a0_ BLgs.out; have BKgr := a0_ BLgr.out; have hcgq_0 : wd.cell? ⟨gq, 0, none⟩ = some (.slice B0 l0.length d0) := (blk_cell BKgq.out 0).trans rfl; have hfgq_0 := blk_frozen BKgq.out 0; have hcgq_1 : wd.cell? ⟨gq, 1, none⟩ = some (.slice B1 l1.length d1) := (blk_cell BKgq.out 1).trans rfl; have hfgq_1 := blk_frozen BKgq.out 1; have hcgq_2 : wd.cell? ⟨gq, 2, none⟩ = some (.int .i64 a2) := (blk_cell BKgq.out 2).trans rfl; have hfgq_2 := blk_frozen BKgq.out 2; have hcgq_3 : wd.cell? ⟨gq, 3, none⟩ = some (.int .i64 a3) := (blk_cell BKgq.out 3).trans rfl; have hfgq_3 := blk_frozen BKgq.out 3; have hcgs_0 : wd.cell? ⟨gs, 0, none⟩ = some (.int .i64 seq) := (blk_cell BKgs.out 0).trans rfl; have hfgs_0 := blk_frozen BKgs.out 0; have hcgr_0 : wd.cell? ⟨gr, 0, none⟩ = some (.slice none 0 0) := (blk_cell BKgr.out 0).trans rfl; have hfgr_0 := blk_frozen BKgr.out 0; have hcgr_1 : wd.cell? ⟨gr, 1, none⟩ = some (.slice none 0 0) := (blk_cell BKgr.out 1).trans rfl; have hfgr_1 := blk_frozen BKgr.out 1; have hcgr_2 : wd.cell? ⟨gr, 2, none⟩ = some (.int .i64 0) := (blk_cell BKgr.out 2).trans rfl; have hfgr_2 := blk_frozen BKgr.out 2; have hcgr_3 : wd.cell? ⟨gr, 3, none⟩ = some (.int .i64 0) := (blk_cell BKgr.out 3).trans rfl; have hfgr_3 := blk_frozen BKgr.out 3; clear BLgq BLgs BLgr; clear hN1 hg HN)
 clear hcgq_0 hfgq_0 hcgq_1 hfgq_1 hcgq_2 hfgq_2 hcgq_3 hfgq_3 hcgs_0 hfgs_0 hcgr_0 hfgr_0 hcgr_1 hfgr_1 hcgr_2 hfgr_2 hcgr_3 hfgr_3
 have nBKgq := a0_ (blk_put (cs' := #[.slice B6 (List.filter (fun s => !decide (s.f1 ≤ seq)) l0).length d6, .slice B1 l1.length d1, .int .i64 a2, .int .i64 a3]) BKgq.out 0 _ rfl)
 have nBKgs := a0_ (blk_far (p := ⟨gq, 0, none⟩) BKgs.out hngsgq (.slice B6 (List.filter (fun s => !decide (s.f1 ≤ seq)) l0).length d6))
 have nBKgr := a0_ (blk_far (p := ⟨gq, 0, none⟩) BKgr.out hngrgq (.slice B6 (List.filter (fun s => !decide (s.f1 ≤ seq)) l0).length d6))
 have nHB := a0_ (below_set (j := 0) (v := .slice B6 (List.filter (fun s => !decide (s.f1 ≤ seq)) l0).length d6) HB.out GEgq.out)
 have nNB := a0_ (Kd.N_far (p := ⟨gq, 0, none⟩) NB.out (fun k hk => hk.2.1) (.slice B6 (List.filter (fun s => !decide (s.f1 ≤ seq)) l0).length d6))
 have nHD1 := a0_ (Kd.F_far (p := ⟨gq, 0, none⟩) HD1.out (fun k hk => hk.1.2.1) (.slice B6 (List.filter (fun s => !decide (s.f1 ≤ seq)) l0).length d6))
 clear BKgq BKgs BKgr HB NB HD1
 generalize (World.setCell wd ⟨gq, 0, none⟩ (.slice B6 (List.filter (fun s => !decide (s.f1 ≤ seq)) l0).length d6)) = w5_ at nBKgq nBKgs nBKgr nHB nNB nHD1 ⊢
 have BKgq := a0_ nBKgq.out
 have BKgs := a0_ nBKgs.out
 have BKgr := a0_ nBKgr.out
 have NB := a0_ nNB.out
 clear nNB
 have HD1 := a0_ nHD1.out
 clear nHD1
 have HB := a0_ nHB.out
 clear nBKgq nBKgs nBKgr nHB
 have hcgq_0 : w5_.cell? ⟨gq, 0, none⟩ = some (.slice B6 (List.filter (fun s => !decide (s.f1 ≤ seq)) l0).length d6) := (blk_cell BKgq.out 0).trans rfl
 have hfgq_0 := blk_frozen BKgq.out 0
 have hcgq_1 : w5_.cell? ⟨gq, 1, none⟩ = some (.slice B1 l1.length d1) := (blk_cell BKgq.out 1).trans rfl
 have hfgq_1 := blk_frozen BKgq.out 1
 have hcgq_2 : w5_.cell? ⟨gq, 2, none⟩ = some (.int .i64 a2) := (blk_cell BKgq.out 2).trans rfl
 have hfgq_2 := blk_frozen BKgq.out 2
 have hcgq_3 : w5_.cell? ⟨gq, 3, none⟩ = some (.int .i64 a3) := (blk_cell BKgq.out 3).trans rfl
 have hfgq_3 := blk_frozen BKgq.out 3
 have hcgs_0 : w5_.cell? ⟨gs, 0, none⟩ = some (.int .i64 seq) := (blk_cell BKgs.out 0).trans rfl
 have hfgs_0 := blk_frozen BKgs.out 0
 have hcgr_0 : w5_.cell? ⟨gr, 0, none⟩ = some (.slice none 0 0) := (blk_cell BKgr.out 0).trans rfl
 have hfgr_0 := blk_frozen BKgr.out 0
 have hcgr_1 : w5_.cell? ⟨gr, 1, none⟩ = some (.slice none 0 0) := (blk_cell BKgr.out 1).trans rfl
 have hfgr_1 := blk_frozen BKgr.out 1
 have hcgr_2 : w5_.cell? ⟨gr, 2, none⟩ = some (.int .i64 0) := (blk_cell BKgr.out 2).trans rfl
 have hfgr_2 := blk_frozen BKgr.out 2
 have hcgr_3 : w5_.cell? ⟨gr, 3, none⟩ = some (.int .i64 0) := (blk_cell BKgr.out 3).trans rfl
 have hfgr_3 := blk_frozen BKgr.out 3
 go_wp2
 clear hcgq_0 hfgq_0 hcgq_1 hfgq_1 hcgq_2 hfgq_2 hcgq_3 hfgq_3 hcgs_0 hfgs_0 hcgr_0 hfgr_0 hcgr_1 hfgr_1 hcgr_2 hfgr_2 hcgr_3 hfgr_3
 have nBKgr := a0_ (blk_put (cs' := #[.slice B6 (List.filter (fun s => !decide (s.f1 ≤ seq)) l0).length d6, .slice B1 l1.length d1, .int .i64 a2, .int .i64 a3]) (blk_put (cs' := #[.slice B6 (List.filter (fun s => !decide (s.f1 ≤ seq)) l0).length d6, .slice B1 l1.length d1, .int .i64 a2, .int .i64 0]) (blk_put (cs' := #[.slice B6 (List.filter (fun s => !decide (s.f1 ≤ seq)) l0).length d6, .slice B1 l1.length d1, .int .i64 0, .int .i64 0]) (blk_put (cs' := #[.slice B6 (List.filter (fun s => !decide (s.f1 ≤ seq)) l0).length d6, .slice none 0 0, .int .i64 0, .int .i64 0]) BKgr.out 0 _ rfl) 1 _ rfl) 2 _ rfl) 3 _ rfl)
 have nBKgq := a0_ (blk_far (p := ⟨gr, 3, none⟩) (blk_far (p := ⟨gr, 2, none⟩) (blk_far (p := ⟨gr, 1, none⟩) (blk_far (p := ⟨gr, 0, none⟩) BKgq.out hngqgr (.slice B6 (List.filter (fun s => !decide (s.f1 ≤ seq)) l0).length d6)) hngqgr (.slice B1 l1.length d1)) hngqgr (.int .i64 a2)) hngqgr (.int .i64 a3))
 have nBKgs := a0_ (blk_far (p := ⟨gr, 3, none⟩) (blk_far (p := ⟨gr, 2, none⟩) (blk_far (p := ⟨gr, 1, none⟩) (blk_far (p := ⟨gr, 0, none⟩) BKgs.out hngsgr (.slice B6 (List.filter (fun s => !decide (s.f1 ≤ seq)) l0).length d6)) hngsgr (.slice B1 l1.length d1)) hngsgr (.int .i64 a2)) hngsgr (.int .i64 a3))
 have nHB := a0_ (below_set (j := 3) (v := .int .i64 a3) (below_set (j := 2) (v := .int .i64 a2) (below_set (j := 1) (v := .slice B1 l1.length d1) (below_set (j := 0) (v := .slice B6 (List.filter (fun s => !decide (s.f1 ≤ seq)) l0).length d6) HB.out GEgr.out) GEgr.out) GEgr.out) GEgr.out)
 have nNB := a0_ (Kd.N_far (p := ⟨gr, 3, none⟩) (Kd.N_far (p := ⟨gr, 2, none⟩) (Kd.N_far (p := ⟨gr, 1, none⟩) (Kd.N_far (p := ⟨gr, 0, none⟩) NB.out (fun k hk => hk.2.2.2) (.slice B6 (List.filter (fun s => !decide (s.f1 ≤ seq)) l0).length d6)) (fun k hk => hk.2.2.2) (.slice B1 l1.length d1)) (fun k hk => hk.2.2.2) (.int .i64 a2)) (fun k hk => hk.2.2.2) (.int .i64 a3))
 have nHD1 := a0_ (Kd.F_far (p := ⟨gr, 3, none⟩) (Kd.F_far (p := ⟨gr, 2, none⟩) (Kd.F_far (p := ⟨gr, 1, none⟩) (Kd.F_far (p := ⟨gr, 0, none⟩) HD1.out (fun k hk => hk.1.2.2.2) (.slice B6 (List.filter (fun s => !decide (s.f1 ≤ seq)) l0).length d6)) (fun k hk => hk.1.2.2.2) (.slice B1 l1.length d1)) (fun k hk => hk.1.2.2.2) (.int .i64 a2)) (fun k hk => hk.1.2.2.2) (.int .i64 a3))
 clear BKgq BKgs BKgr HB NB HD1
 generalize (World.setCell (World.setCell (World.setCell (World.setCell w5_ ⟨gr, 0, none⟩ (.slice B6 (List.filter (fun s => !decide (s.f1 ≤ seq)) l0).length d6)) ⟨gr, 1, none⟩ (.slice B1 l1.length d1)) ⟨gr, 2, none⟩ (.int .i64 a2)) ⟨gr, 3, none⟩ (.int .i64 a3)) = w6_ at nBKgq nBKgs nBKgr nHB nNB nHD1 ⊢
 have BKgq := a0_ nBKgq.out
 have BKgs := a0_ nBKgs.out
 have BKgr := a0_ nBKgr.out
 have NB := a0_ nNB.out
 clear nNB
 have HD1 := a0_ nHD1.out
 clear nHD1
 have HB := a0_ nHB.out
 clear nBKgq nBKgs nBKgr nHB
 refine bodyPost_ret (results_ct rfl _ _ gr 68 #[.slice B6 (List.filter (fun s => !decide (s.f1 ≤ seq)) l0).length d6, .slice B1 l1.length d1, .int .i64 a2, .int .i64 a3] (0, 0) _ rfl BKgr.out (Try.underlying68) rfl z6_) rfl ?_
 exact ⟨_, _, rfl, Rn.mk (Kd.N_F NB.out) (fun k hk => hk.1) (Kd.N_reads' NB.out).2.1, Rn.mk HD1.out (fun k hk => hk.1.1) HL1.out, HB.out⟩
end Go.Proofs.Ytecfndblgefhdaa.R
