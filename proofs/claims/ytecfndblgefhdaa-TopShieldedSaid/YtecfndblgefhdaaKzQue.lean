import Derived.Test.YtecfndblgefhdaaKzRx11
import Derived.Test.YtecfndblgefhdaaKzRx6
import Derived.Test.YtecfndblgefhdaaKzDelB
set_option linter.unusedVariables false
set_option linter.unusedSimpArgs false
namespace Go.Proofs.Ytecfndblgefhdaa.R
open Go.RowKit Go.Proofs.YtecfndblgefhdaaW.PrintWords Go.Proofs.YtecfndblgefhdaaW.PrintLast Go.Proofs.YtecfndblgefhdaaW.PrintMore
attribute [local go_sem] max2_int min2_int max_two min_two max_three min_three max_four min_four
def Rd {α : Type} (d : Kd α) (w : World) (v : Value) (xs : List α) : Prop := ∃ A c, v = .slice A xs.length c ∧ xs.length ≤ c ∧ d.C w A xs.length xs
theorem Rd.below {α : Type} {d : Kd α} {w w1 : World} {v : Value} {xs : List α} (h : Rd d w v xs) (hb : Below w.heap.size w w1) : Rd d w1 v xs := by
 obtain ⟨A, c, h1, h2, h3⟩ := h
 exact ⟨A, c, h1, h2, Kd.C_below h3 hb⟩
def Rn {α : Type} (d : Kd α) (w0 w : World) (v : Value) (xs : List α) : Prop := ∃ A c, v = .slice A xs.length c ∧ xs.length ≤ c ∧ Kd.F d w (fun k => w0.heap.size ≤ k) A xs.length xs
theorem Rn.mk {α : Type} {d : Kd α} {w0 w : World} {A : Option Addr} {c : Nat} {xs : List α} {ok : Nat → Prop} (h : Kd.F d w ok A xs.length xs) (hok : ∀ k, ok k → w0.heap.size ≤ k) (hc : xs.length ≤ c) : Rn d w0 w (.slice A xs.length c) xs := ⟨A, c, rfl, hc, Kd.F_mono h hok⟩
theorem Rn.of_R {α : Type} {d : Kd α} {e : Nat} {w0 w : World} {ok : Nat → Prop} {v : Value} {xs : List α} (h : d.R e w w0.heap.size ok v xs) : Rn d w0 w v xs := by
 obtain ⟨A, c, rfl, hc, _⟩ := Kd.R_reads h
 exact Rn.mk (Kd.R_F (Kd.R_bound h)) (fun k hk => hk.2.1) hc
theorem Rn.of_S {α : Type} {d : Kd α} {e : Nat} {w0 w : World} {ok : Nat → Prop} {v : Value} {xs : List α} (h : Kd.S d e w w0.heap.size ok v xs) : Rn d w0 w v xs := Rn.of_R (Kd.S_R h)
theorem C_V {α : Type} {d : Kd α} {e base : Nat} (hd : Kd.Heap d) {w : World} {A : Option Addr} {c : Nat} {xs : List α} (h : d.C w A xs.length xs) (hc : xs.length ≤ c) : Kd.V d e w base (fun k => k < w.heap.size) (.slice A xs.length c) xs := Kd.V_mk hc (Kd.C_F hd h)
set_option maxHeartbeats 4000000 in
set_option maxRecDepth 100000 in
theorem qAdd.calls (k : Nat) (A0 : Option Addr) (c0 : Nat) (l0 : List S51) (A1 : Option Addr) (c1 : Nat) (l1 : List S120) (a2 a3 : Int) (A2 : Option Addr) (c2 : Nat) (l2 r : List S120) (w : World) (hr0 : Kd.C k51 w A0 l0.length l0) (hc0 : l0.length ≤ c0) (hr1 : Kd.C k120 w A1 l1.length l1) (hc1 : l1.length ≤ c1) (hr2 : Kd.C k120 w A2 l2.length l2) (hc2 : l2.length ≤ c2) (hR : queue_Right.f k l0 l1 a2 a3 = some true) (hcl : queue_clone.f k l0 l1 a2 a3 = some (l0, l1, a2, a3)) (ht : 0 ≤ a3 ∧ a3 < 1000000) (hm : fold_Merge.f k l1 l2 = some r) :
  Calls Try.prog 18 #[.agg #[.slice A0 l0.length c0, .slice A1 l1.length c1, .int .i64 a2, .int .i64 a3], .slice A2 l2.length c2] w fun e w' => ∃ v0 v1 : Value, e = .returned (.tuple #[.agg #[v0, v1, .int .i64 a2, .int .i64 (a3 + 1)], .int .i64 0]) ∧ Rn k51 w w' v0 l0 ∧ Rn k120 w w' v1 r ∧ Below w.heap.size w w' := by
 have HR0 := a0_ hr0
 have HC0 := a0_ hc0
 have HR1 := a0_ hr1
 have HC1 := a0_ hc1
 have HRT := a0_ hR
 have HCL := a0_ hcl
 have HMG := a0_ hm
 have HR2 := a0_ hr2
 have HC2 := a0_ hc2
 clear hr0 hc0 hr1 hc1 hR hcl hm hr2 hc2
 have HB := a0_ (Below.refl w.heap.size w)
 have ht1 : (a3 == 1099511627776) = false := beq_eq_false_iff_ne.2 z7_
 have ht2 : 0 ≤ a3 := by omega
 have eg1 : ∀ args w, (callFunc 51 args).run Try.prog w = .ok (.enter 51 args) w := enters_of Try.func51 z6_ rfl
 have eg2 : ∀ args w, (callFunc 53 args).run Try.prog w = .ok (.enter 53 args) w := enters_of Try.func53 z6_ rfl
 have eg3 : ∀ args w, (callFunc 54 args).run Try.prog w = .ok (.enter 54 args) w := enters_of Try.func54 z6_ rfl
 go_enter Try.func18, Try.ntmps18
 go_upto_region 1 with (first | ((with_reducible refine gate_dst (N := 2) rfl ?_); refine box_event ?hg (N := 2) ?hd (cs := #[.slice A0 l0.length c0, .slice A1 l1.length c1, .int .i64 a2, .int .i64 a3]) (t := 68) ?hr ?_; (case hd => rfl); (case hg => rfl); (case hr => exact z30_); intro gq hg w1_ hbox hb; have GEgq := a0_ (z163_ : w.heap.size ≤ gq); have BKgq := a0_ hbox; replace HB := a0_ (below_step HB.out hb); clear hb hbox hg) | ((with_reducible refine gate_dst (N := 4) rfl ?_); refine box_event ?hg (N := 4) ?hd (cs := #[.slice none 0 0, .slice none 0 0, .int .i64 0, .int .i64 0]) (t := 68) ?hr ?_; (case hd => rfl); (case hg => rfl); (case hr => exact z30_); intro gr hg w2_ hbox hb; have Lgq := blk_lt BKgq.out; have hngqgr : gq ≠ gr := (fun h => z7_); have hngrgq : gr ≠ gq := (fun h => z7_); replace BKgq := a0_ (blk_below BKgq.out hb); have GEgr := a0_ (z163_ : w.heap.size ≤ gr); have BKgr := a0_ hbox; replace HB := a0_ (below_step HB.out hb); clear hb hbox hg Lgq))
 have hcgq_0 : w2_.cell? ⟨gq, 0, none⟩ = some (.slice A0 l0.length c0) := (blk_cell BKgq.out 0).trans rfl
 have hfgq_0 := blk_frozen BKgq.out 0
 have hcgq_1 : w2_.cell? ⟨gq, 1, none⟩ = some (.slice A1 l1.length c1) := (blk_cell BKgq.out 1).trans rfl
 have hfgq_1 := blk_frozen BKgq.out 1
 have hcgq_2 : w2_.cell? ⟨gq, 2, none⟩ = some (.int .i64 a2) := (blk_cell BKgq.out 2).trans rfl
 have hfgq_2 := blk_frozen BKgq.out 2
 have hcgq_3 : w2_.cell? ⟨gq, 3, none⟩ = some (.int .i64 a3) := (blk_cell BKgq.out 3).trans rfl
 have hfgq_3 := blk_frozen BKgq.out 3
 have hcgr_0 : w2_.cell? ⟨gr, 0, none⟩ = some (.slice none 0 0) := (blk_cell BKgr.out 0).trans rfl
 have hfgr_0 := blk_frozen BKgr.out 0
 have hcgr_1 : w2_.cell? ⟨gr, 1, none⟩ = some (.slice none 0 0) := (blk_cell BKgr.out 1).trans rfl
 have hfgr_1 := blk_frozen BKgr.out 1
 have hcgr_2 : w2_.cell? ⟨gr, 2, none⟩ = some (.int .i64 0) := (blk_cell BKgr.out 2).trans rfl
 have hfgr_2 := blk_frozen BKgr.out 2
 have hcgr_3 : w2_.cell? ⟨gr, 3, none⟩ = some (.int .i64 0) := (blk_cell BKgr.out 3).trans rfl
 have hfgr_3 := blk_frozen BKgr.out 3
 go_upto_region 3 with (go_at_fn 51; refine (queue_Right.calls k A0 c0 l0 A1 c1 l1 a2 a3 true _ (Kd.C_below HR0.out HB.out) HC0.out (Kd.C_below HR1.out HB.out) HC1.out HRT.out).mono ?_; rintro e wr ⟨rfl, hb⟩; have LB_ := HB.out.size; have Lgq := blk_lt BKgq.out; have Lgr := blk_lt BKgr.out; clear hcgq_0 hfgq_0 hcgq_1 hfgq_1 hcgq_2 hfgq_2 hcgq_3 hfgq_3 hcgr_0 hfgr_0 hcgr_1 hfgr_1 hcgr_2 hfgr_2 hcgr_3 hfgr_3; replace BKgq := a0_ (blk_below BKgq.out hb); replace BKgr := a0_ (blk_below BKgr.out hb); replace HB := a0_ (below_step HB.out hb); have hcgq_0 : wr.cell? ⟨gq, 0, none⟩ = some (.slice A0 l0.length c0) := (blk_cell BKgq.out 0).trans rfl; have hfgq_0 := blk_frozen BKgq.out 0; have hcgq_1 : wr.cell? ⟨gq, 1, none⟩ = some (.slice A1 l1.length c1) := (blk_cell BKgq.out 1).trans rfl; have hfgq_1 := blk_frozen BKgq.out 1; have hcgq_2 : wr.cell? ⟨gq, 2, none⟩ = some (.int .i64 a2) := (blk_cell BKgq.out 2).trans rfl; have hfgq_2 := blk_frozen BKgq.out 2; have hcgq_3 : wr.cell? ⟨gq, 3, none⟩ = some (.int .i64 a3) := (blk_cell BKgq.out 3).trans rfl; have hfgq_3 := blk_frozen BKgq.out 3; have hcgr_0 : wr.cell? ⟨gr, 0, none⟩ = some (.slice none 0 0) := (blk_cell BKgr.out 0).trans rfl; have hfgr_0 := blk_frozen BKgr.out 0; have hcgr_1 : wr.cell? ⟨gr, 1, none⟩ = some (.slice none 0 0) := (blk_cell BKgr.out 1).trans rfl; have hfgr_1 := blk_frozen BKgr.out 1; have hcgr_2 : wr.cell? ⟨gr, 2, none⟩ = some (.int .i64 0) := (blk_cell BKgr.out 2).trans rfl; have hfgr_2 := blk_frozen BKgr.out 2; have hcgr_3 : wr.cell? ⟨gr, 3, none⟩ = some (.int .i64 0) := (blk_cell BKgr.out 3).trans rfl; have hfgr_3 := blk_frozen BKgr.out 3; clear hb LB_ Lgq Lgr)
 go_upto_region 4 with (go_at_fn 53; refine (queue_clone.calls k A0 c0 l0 A1 c1 l1 a2 a3 l0 l1 a2 a3 _ (Kd.C_below HR0.out HB.out) HC0.out (Kd.C_below HR1.out HB.out) HC1.out HCL.out).mono ?_; rintro e wc ⟨v0, v1, rfl, hv0, hv1, hb⟩; have LB_ := HB.out.size; have Lgq := blk_lt BKgq.out; have Lgr := blk_lt BKgr.out; clear hcgq_0 hfgq_0 hcgq_1 hfgq_1 hcgq_2 hfgq_2 hcgq_3 hfgq_3 hcgr_0 hfgr_0 hcgr_1 hfgr_1 hcgr_2 hfgr_2 hcgr_3 hfgr_3; replace BKgq := a0_ (blk_below BKgq.out hb); replace BKgr := a0_ (blk_below BKgr.out hb); replace HB := a0_ (below_step HB.out hb); have hcgq_0 : wc.cell? ⟨gq, 0, none⟩ = some (.slice A0 l0.length c0) := (blk_cell BKgq.out 0).trans rfl; have hfgq_0 := blk_frozen BKgq.out 0; have hcgq_1 : wc.cell? ⟨gq, 1, none⟩ = some (.slice A1 l1.length c1) := (blk_cell BKgq.out 1).trans rfl; have hfgq_1 := blk_frozen BKgq.out 1; have hcgq_2 : wc.cell? ⟨gq, 2, none⟩ = some (.int .i64 a2) := (blk_cell BKgq.out 2).trans rfl; have hfgq_2 := blk_frozen BKgq.out 2; have hcgq_3 : wc.cell? ⟨gq, 3, none⟩ = some (.int .i64 a3) := (blk_cell BKgq.out 3).trans rfl; have hfgq_3 := blk_frozen BKgq.out 3; have hcgr_0 : wc.cell? ⟨gr, 0, none⟩ = some (.slice none 0 0) := (blk_cell BKgr.out 0).trans rfl; have hfgr_0 := blk_frozen BKgr.out 0; have hcgr_1 : wc.cell? ⟨gr, 1, none⟩ = some (.slice none 0 0) := (blk_cell BKgr.out 1).trans rfl; have hfgr_1 := blk_frozen BKgr.out 1; have hcgr_2 : wc.cell? ⟨gr, 2, none⟩ = some (.int .i64 0) := (blk_cell BKgr.out 2).trans rfl; have hfgr_2 := blk_frozen BKgr.out 2; have hcgr_3 : wc.cell? ⟨gr, 3, none⟩ = some (.int .i64 0) := (blk_cell BKgr.out 3).trans rfl; have hfgr_3 := blk_frozen BKgr.out 3; obtain ⟨B0, d0, rfl, hl0, hC0⟩ := Kd.N_reads hv0; obtain ⟨B1, d1, rfl, hl1, hC1⟩ := Kd.R_reads hv1; have HD0 := a0_ (Kd.F_mono (ok' := (fun k => w.heap.size ≤ k ∧ k ≠ gq ∧ k ≠ gr)) (Kd.N_F hv0) (fun k hk => ⟨(by have := hk.1; omega), (fun h => by have := hk.1; omega), (fun h => by have := hk.1; omega)⟩)); have HD1 := a0_ (Kd.F_mono (ok' := (fun k => w.heap.size ≤ k ∧ k ≠ gq ∧ k ≠ gr)) (Kd.R_F hv1) (fun k hk => ⟨z164_, (fun h => z164_), (fun h => z164_)⟩)); have HL0 := a0_ hl0; have HL1 := a0_ hl1; clear hv0 hv1 hC0 hC1 hl0 hl1; clear hb LB_ Lgq Lgr)
 clear hcgq_0 hfgq_0 hcgq_1 hfgq_1 hcgq_2 hfgq_2 hcgq_3 hfgq_3 hcgr_0 hfgr_0 hcgr_1 hfgr_1 hcgr_2 hfgr_2 hcgr_3 hfgr_3
 have nBKgq := a0_ (blk_put (cs' := #[.slice B0 l0.length d0, .slice B1 l1.length d1, .int .i64 a2, .int .i64 a3]) (blk_put (cs' := #[.slice B0 l0.length d0, .slice B1 l1.length d1, .int .i64 a2, .int .i64 a3]) (blk_put (cs' := #[.slice B0 l0.length d0, .slice B1 l1.length d1, .int .i64 a2, .int .i64 a3]) (blk_put (cs' := #[.slice B0 l0.length d0, .slice A1 l1.length c1, .int .i64 a2, .int .i64 a3]) BKgq.out 0 _ rfl) 1 _ rfl) 2 _ rfl) 3 _ rfl)
 have nBKgr := a0_ (blk_far (p := ⟨gq, 3, none⟩) (blk_far (p := ⟨gq, 2, none⟩) (blk_far (p := ⟨gq, 1, none⟩) (blk_far (p := ⟨gq, 0, none⟩) BKgr.out hngrgq (.slice B0 l0.length d0)) hngrgq (.slice B1 l1.length d1)) hngrgq (.int .i64 a2)) hngrgq (.int .i64 a3))
 have nHB := a0_ (below_set (j := 3) (v := .int .i64 a3) (below_set (j := 2) (v := .int .i64 a2) (below_set (j := 1) (v := .slice B1 l1.length d1) (below_set (j := 0) (v := .slice B0 l0.length d0) HB.out GEgq.out) GEgq.out) GEgq.out) GEgq.out)
 have nHD0 := a0_ (Kd.F_far (p := ⟨gq, 3, none⟩) (Kd.F_far (p := ⟨gq, 2, none⟩) (Kd.F_far (p := ⟨gq, 1, none⟩) (Kd.F_far (p := ⟨gq, 0, none⟩) HD0.out (fun k hk => hk.2.1) (.slice B0 l0.length d0)) (fun k hk => hk.2.1) (.slice B1 l1.length d1)) (fun k hk => hk.2.1) (.int .i64 a2)) (fun k hk => hk.2.1) (.int .i64 a3))
 have nHD1 := a0_ (Kd.F_far (p := ⟨gq, 3, none⟩) (Kd.F_far (p := ⟨gq, 2, none⟩) (Kd.F_far (p := ⟨gq, 1, none⟩) (Kd.F_far (p := ⟨gq, 0, none⟩) HD1.out (fun k hk => hk.2.1) (.slice B0 l0.length d0)) (fun k hk => hk.2.1) (.slice B1 l1.length d1)) (fun k hk => hk.2.1) (.int .i64 a2)) (fun k hk => hk.2.1) (.int .i64 a3))
 clear BKgq BKgr HB HD0 HD1
 generalize (World.setCell (World.setCell (World.setCell (World.setCell wc ⟨gq, 0, none⟩ (.slice B0 l0.length d0)) ⟨gq, 1, none⟩ (.slice B1 l1.length d1)) ⟨gq, 2, none⟩ (.int .i64 a2)) ⟨gq, 3, none⟩ (.int .i64 a3)) = w3_ at nBKgq nBKgr nHB nHD0 nHD1 ⊢
 have BKgq := a0_ nBKgq.out
 have BKgr := a0_ nBKgr.out
 have HD0 := a0_ nHD0.out
 clear nHD0
 have HD1 := a0_ nHD1.out
 clear nHD1
 have HB := a0_ nHB.out
 clear nBKgq nBKgr nHB
 have hcgq_0 : w3_.cell? ⟨gq, 0, none⟩ = some (.slice B0 l0.length d0) := (blk_cell BKgq.out 0).trans rfl
 have hfgq_0 := blk_frozen BKgq.out 0
 have hcgq_1 : w3_.cell? ⟨gq, 1, none⟩ = some (.slice B1 l1.length d1) := (blk_cell BKgq.out 1).trans rfl
 have hfgq_1 := blk_frozen BKgq.out 1
 have hcgq_2 : w3_.cell? ⟨gq, 2, none⟩ = some (.int .i64 a2) := (blk_cell BKgq.out 2).trans rfl
 have hfgq_2 := blk_frozen BKgq.out 2
 have hcgq_3 : w3_.cell? ⟨gq, 3, none⟩ = some (.int .i64 a3) := (blk_cell BKgq.out 3).trans rfl
 have hfgq_3 := blk_frozen BKgq.out 3
 have hcgr_0 : w3_.cell? ⟨gr, 0, none⟩ = some (.slice none 0 0) := (blk_cell BKgr.out 0).trans rfl
 have hfgr_0 := blk_frozen BKgr.out 0
 have hcgr_1 : w3_.cell? ⟨gr, 1, none⟩ = some (.slice none 0 0) := (blk_cell BKgr.out 1).trans rfl
 have hfgr_1 := blk_frozen BKgr.out 1
 have hcgr_2 : w3_.cell? ⟨gr, 2, none⟩ = some (.int .i64 0) := (blk_cell BKgr.out 2).trans rfl
 have hfgr_2 := blk_frozen BKgr.out 2
 have hcgr_3 : w3_.cell? ⟨gr, 3, none⟩ = some (.int .i64 0) := (blk_cell BKgr.out 3).trans rfl
 have hfgr_3 := blk_frozen BKgr.out 3
 go_upto_region 5 with fail
 clear hcgq_0 hfgq_0 hcgq_1 hfgq_1 hcgq_2 hfgq_2 hcgq_3 hfgq_3 hcgr_0 hfgr_0 hcgr_1 hfgr_1 hcgr_2 hfgr_2 hcgr_3 hfgr_3
 have nBKgq := a0_ (blk_put (cs' := #[.slice B0 l0.length d0, .slice B1 l1.length d1, .int .i64 a2, .int .i64 (a3 + 1)]) BKgq.out 3 _ rfl)
 have nBKgr := a0_ (blk_far (p := ⟨gq, 3, none⟩) BKgr.out hngrgq (.int .i64 (a3 + 1)))
 have nHB := a0_ (below_set (j := 3) (v := .int .i64 (a3 + 1)) HB.out GEgq.out)
 have nHD0 := a0_ (Kd.F_far (p := ⟨gq, 3, none⟩) HD0.out (fun k hk => hk.2.1) (.int .i64 (a3 + 1)))
 have nHD1 := a0_ (Kd.F_far (p := ⟨gq, 3, none⟩) HD1.out (fun k hk => hk.2.1) (.int .i64 (a3 + 1)))
 clear BKgq BKgr HB HD0 HD1
 generalize (World.setCell w3_ ⟨gq, 3, none⟩ (.int .i64 (a3 + 1))) = w4_ at nBKgq nBKgr nHB nHD0 nHD1 ⊢
 have BKgq := a0_ nBKgq.out
 have BKgr := a0_ nBKgr.out
 have HD0 := a0_ nHD0.out
 clear nHD0
 have HD1 := a0_ nHD1.out
 clear nHD1
 have HB := a0_ nHB.out
 clear nBKgq nBKgr nHB
 have hcgq_0 : w4_.cell? ⟨gq, 0, none⟩ = some (.slice B0 l0.length d0) := (blk_cell BKgq.out 0).trans rfl
 have hfgq_0 := blk_frozen BKgq.out 0
 have hcgq_1 : w4_.cell? ⟨gq, 1, none⟩ = some (.slice B1 l1.length d1) := (blk_cell BKgq.out 1).trans rfl
 have hfgq_1 := blk_frozen BKgq.out 1
 have hcgq_2 : w4_.cell? ⟨gq, 2, none⟩ = some (.int .i64 a2) := (blk_cell BKgq.out 2).trans rfl
 have hfgq_2 := blk_frozen BKgq.out 2
 have hcgq_3 : w4_.cell? ⟨gq, 3, none⟩ = some (.int .i64 (a3 + 1)) := (blk_cell BKgq.out 3).trans rfl
 have hfgq_3 := blk_frozen BKgq.out 3
 have hcgr_0 : w4_.cell? ⟨gr, 0, none⟩ = some (.slice none 0 0) := (blk_cell BKgr.out 0).trans rfl
 have hfgr_0 := blk_frozen BKgr.out 0
 have hcgr_1 : w4_.cell? ⟨gr, 1, none⟩ = some (.slice none 0 0) := (blk_cell BKgr.out 1).trans rfl
 have hfgr_1 := blk_frozen BKgr.out 1
 have hcgr_2 : w4_.cell? ⟨gr, 2, none⟩ = some (.int .i64 0) := (blk_cell BKgr.out 2).trans rfl
 have hfgr_2 := blk_frozen BKgr.out 2
 have hcgr_3 : w4_.cell? ⟨gr, 3, none⟩ = some (.int .i64 0) := (blk_cell BKgr.out 3).trans rfl
 have hfgr_3 := blk_frozen BKgr.out 3
 go_upto_region 6 with (go_at_fn 54; refine (fold_Merge.calls k _ B1 d1 l1 _ A2 c2 l2 r _ (Kd.V_mk HL1.out HD1.out) (C_V k120_heap (Kd.C_below HR2.out HB.out) HC2.out) HMG.out).mono ?_; rintro e wm ⟨v2, rfl, hv2, hb⟩; have LB_ := HB.out.size; have Lgq := blk_lt BKgq.out; have Lgr := blk_lt BKgr.out; clear hcgq_0 hfgq_0 hcgq_1 hfgq_1 hcgq_2 hfgq_2 hcgq_3 hfgq_3 hcgr_0 hfgr_0 hcgr_1 hfgr_1 hcgr_2 hfgr_2 hcgr_3 hfgr_3; replace BKgq := a0_ (blk_below BKgq.out hb); replace BKgr := a0_ (blk_below BKgr.out hb); replace HB := a0_ (below_step HB.out hb); replace HD0 := a0_ (Kd.F_below HD0.out hb); replace HD1 := a0_ (Kd.F_below HD1.out hb); have hcgq_0 : wm.cell? ⟨gq, 0, none⟩ = some (.slice B0 l0.length d0) := (blk_cell BKgq.out 0).trans rfl; have hfgq_0 := blk_frozen BKgq.out 0; have hcgq_1 : wm.cell? ⟨gq, 1, none⟩ = some (.slice B1 l1.length d1) := (blk_cell BKgq.out 1).trans rfl; have hfgq_1 := blk_frozen BKgq.out 1; have hcgq_2 : wm.cell? ⟨gq, 2, none⟩ = some (.int .i64 a2) := (blk_cell BKgq.out 2).trans rfl; have hfgq_2 := blk_frozen BKgq.out 2; have hcgq_3 : wm.cell? ⟨gq, 3, none⟩ = some (.int .i64 (a3 + 1)) := (blk_cell BKgq.out 3).trans rfl; have hfgq_3 := blk_frozen BKgq.out 3; have hcgr_0 : wm.cell? ⟨gr, 0, none⟩ = some (.slice none 0 0) := (blk_cell BKgr.out 0).trans rfl; have hfgr_0 := blk_frozen BKgr.out 0; have hcgr_1 : wm.cell? ⟨gr, 1, none⟩ = some (.slice none 0 0) := (blk_cell BKgr.out 1).trans rfl; have hfgr_1 := blk_frozen BKgr.out 1; have hcgr_2 : wm.cell? ⟨gr, 2, none⟩ = some (.int .i64 0) := (blk_cell BKgr.out 2).trans rfl; have hfgr_2 := blk_frozen BKgr.out 2; have hcgr_3 : wm.cell? ⟨gr, 3, none⟩ = some (.int .i64 0) := (blk_cell BKgr.out 3).trans rfl; have hfgr_3 := blk_frozen BKgr.out 3; obtain ⟨B2, d2, rfl, hl2, hC2⟩ := Kd.R_reads hv2; have HD2 := a0_ (Kd.F_mono (ok' := (fun k => w.heap.size ≤ k ∧ k ≠ gq ∧ k ≠ gr)) (Kd.R_F hv2) (fun k hk => ⟨z164_, (fun h => z164_), (fun h => z164_)⟩)); have HL2 := a0_ hl2; clear hv2 hC2 hl2; clear hb LB_ Lgq Lgr)
 clear hcgq_0 hfgq_0 hcgq_1 hfgq_1 hcgq_2 hfgq_2 hcgq_3 hfgq_3 hcgr_0 hfgr_0 hcgr_1 hfgr_1 hcgr_2 hfgr_2 hcgr_3 hfgr_3
 have nBKgq := a0_ (blk_put (cs' := #[.slice B0 l0.length d0, .slice B2 r.length d2, .int .i64 a2, .int .i64 (a3 + 1)]) BKgq.out 1 _ rfl)
 have nBKgr := a0_ (blk_far (p := ⟨gq, 1, none⟩) BKgr.out hngrgq (.slice B2 r.length d2))
 have nHB := a0_ (below_set (j := 1) (v := .slice B2 r.length d2) HB.out GEgq.out)
 have nHD0 := a0_ (Kd.F_far (p := ⟨gq, 1, none⟩) HD0.out (fun k hk => hk.2.1) (.slice B2 r.length d2))
 have nHD1 := a0_ (Kd.F_far (p := ⟨gq, 1, none⟩) HD1.out (fun k hk => hk.2.1) (.slice B2 r.length d2))
 have nHD2 := a0_ (Kd.F_far (p := ⟨gq, 1, none⟩) HD2.out (fun k hk => hk.2.1) (.slice B2 r.length d2))
 clear BKgq BKgr HB HD0 HD1 HD2
 generalize (World.setCell wm ⟨gq, 1, none⟩ (.slice B2 r.length d2)) = w5_ at nBKgq nBKgr nHB nHD0 nHD1 nHD2 ⊢
 have BKgq := a0_ nBKgq.out
 have BKgr := a0_ nBKgr.out
 have HD0 := a0_ nHD0.out
 clear nHD0
 have HD1 := a0_ nHD1.out
 clear nHD1
 have HD2 := a0_ nHD2.out
 clear nHD2
 have HB := a0_ nHB.out
 clear nBKgq nBKgr nHB
 have hcgq_0 : w5_.cell? ⟨gq, 0, none⟩ = some (.slice B0 l0.length d0) := (blk_cell BKgq.out 0).trans rfl
 have hfgq_0 := blk_frozen BKgq.out 0
 have hcgq_1 : w5_.cell? ⟨gq, 1, none⟩ = some (.slice B2 r.length d2) := (blk_cell BKgq.out 1).trans rfl
 have hfgq_1 := blk_frozen BKgq.out 1
 have hcgq_2 : w5_.cell? ⟨gq, 2, none⟩ = some (.int .i64 a2) := (blk_cell BKgq.out 2).trans rfl
 have hfgq_2 := blk_frozen BKgq.out 2
 have hcgq_3 : w5_.cell? ⟨gq, 3, none⟩ = some (.int .i64 (a3 + 1)) := (blk_cell BKgq.out 3).trans rfl
 have hfgq_3 := blk_frozen BKgq.out 3
 have hcgr_0 : w5_.cell? ⟨gr, 0, none⟩ = some (.slice none 0 0) := (blk_cell BKgr.out 0).trans rfl
 have hfgr_0 := blk_frozen BKgr.out 0
 have hcgr_1 : w5_.cell? ⟨gr, 1, none⟩ = some (.slice none 0 0) := (blk_cell BKgr.out 1).trans rfl
 have hfgr_1 := blk_frozen BKgr.out 1
 have hcgr_2 : w5_.cell? ⟨gr, 2, none⟩ = some (.int .i64 0) := (blk_cell BKgr.out 2).trans rfl
 have hfgr_2 := blk_frozen BKgr.out 2
 have hcgr_3 : w5_.cell? ⟨gr, 3, none⟩ = some (.int .i64 0) := (blk_cell BKgr.out 3).trans rfl
 have hfgr_3 := blk_frozen BKgr.out 3
 go_wp2
 clear hcgq_0 hfgq_0 hcgq_1 hfgq_1 hcgq_2 hfgq_2 hcgq_3 hfgq_3 hcgr_0 hfgr_0 hcgr_1 hfgr_1 hcgr_2 hfgr_2 hcgr_3 hfgr_3
 have nBKgr := a0_ (blk_put (cs' := #[.slice B0 l0.length d0, .slice B2 r.length d2, .int .i64 a2, .int .i64 (a3 + 1)]) (blk_put (cs' := #[.slice B0 l0.length d0, .slice B2 r.length d2, .int .i64 a2, .int .i64 0]) (blk_put (cs' := #[.slice B0 l0.length d0, .slice B2 r.length d2, .int .i64 0, .int .i64 0]) (blk_put (cs' := #[.slice B0 l0.length d0, .slice none 0 0, .int .i64 0, .int .i64 0]) BKgr.out 0 _ rfl) 1 _ rfl) 2 _ rfl) 3 _ rfl)
 have nBKgq := a0_ (blk_far (p := ⟨gr, 3, none⟩) (blk_far (p := ⟨gr, 2, none⟩) (blk_far (p := ⟨gr, 1, none⟩) (blk_far (p := ⟨gr, 0, none⟩) BKgq.out hngqgr (.slice B0 l0.length d0)) hngqgr (.slice B2 r.length d2)) hngqgr (.int .i64 a2)) hngqgr (.int .i64 (a3 + 1)))
 have nHB := a0_ (below_set (j := 3) (v := .int .i64 (a3 + 1)) (below_set (j := 2) (v := .int .i64 a2) (below_set (j := 1) (v := .slice B2 r.length d2) (below_set (j := 0) (v := .slice B0 l0.length d0) HB.out GEgr.out) GEgr.out) GEgr.out) GEgr.out)
 have nHD0 := a0_ (Kd.F_far (p := ⟨gr, 3, none⟩) (Kd.F_far (p := ⟨gr, 2, none⟩) (Kd.F_far (p := ⟨gr, 1, none⟩) (Kd.F_far (p := ⟨gr, 0, none⟩) HD0.out (fun k hk => hk.2.2) (.slice B0 l0.length d0)) (fun k hk => hk.2.2) (.slice B2 r.length d2)) (fun k hk => hk.2.2) (.int .i64 a2)) (fun k hk => hk.2.2) (.int .i64 (a3 + 1)))
 have nHD1 := a0_ (Kd.F_far (p := ⟨gr, 3, none⟩) (Kd.F_far (p := ⟨gr, 2, none⟩) (Kd.F_far (p := ⟨gr, 1, none⟩) (Kd.F_far (p := ⟨gr, 0, none⟩) HD1.out (fun k hk => hk.2.2) (.slice B0 l0.length d0)) (fun k hk => hk.2.2) (.slice B2 r.length d2)) (fun k hk => hk.2.2) (.int .i64 a2)) (fun k hk => hk.2.2) (.int .i64 (a3 + 1)))
 have nHD2 := a0_ (Kd.F_far (p := ⟨gr, 3, none⟩) (Kd.F_far (p := ⟨gr, 2, none⟩) (Kd.F_far (p := ⟨gr, 1, none⟩) (Kd.F_far (p := ⟨gr, 0, none⟩) HD2.out (fun k hk => hk.2.2) (.slice B0 l0.length d0)) (fun k hk => hk.2.2) (.slice B2 r.length d2)) (fun k hk => hk.2.2) (.int .i64 a2)) (fun k hk => hk.2.2) (.int .i64 (a3 + 1)))
 clear BKgq BKgr HB HD0 HD1 HD2
 generalize (World.setCell (World.setCell (World.setCell (World.setCell w5_ ⟨gr, 0, none⟩ (.slice B0 l0.length d0)) ⟨gr, 1, none⟩ (.slice B2 r.length d2)) ⟨gr, 2, none⟩ (.int .i64 a2)) ⟨gr, 3, none⟩ (.int .i64 (a3 + 1))) = w6_ at nBKgq nBKgr nHB nHD0 nHD1 nHD2 ⊢
 have BKgq := a0_ nBKgq.out
 have BKgr := a0_ nBKgr.out
 have HD0 := a0_ nHD0.out
 clear nHD0
 have HD1 := a0_ nHD1.out
 clear nHD1
 have HD2 := a0_ nHD2.out
 clear nHD2
 have HB := a0_ nHB.out
 clear nBKgq nBKgr nHB
 refine bodyPost_ret (results_ct rfl _ _ gr 68 #[.slice B0 l0.length d0, .slice B2 r.length d2, .int .i64 a2, .int .i64 (a3 + 1)] (0, 0) _ rfl BKgr.out (Try.underlying68) rfl z6_) rfl ?_
 exact ⟨_, _, rfl, Rn.mk HD0.out (fun k hk => hk.1) HL0.out, Rn.mk HD2.out (fun k hk => hk.1) HL2.out, HB.out⟩
end Go.Proofs.Ytecfndblgefhdaa.R
