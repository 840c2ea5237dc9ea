import Derived.Test.YtgfmdfgibkkfaaaKaPx0
import Derived.Test.YtgfmdfgibkkfaaaKaPx5
import Derived.Test.YtgfmdfgibkkfaaaKaEndsA
import Derived.Test.YtgfmdfgibkkfaaaKaEndsC
set_option linter.unusedVariables false
set_option linter.unusedSimpArgs false
namespace Go.Proofs.Ytgfmdfgibkkfaaa.P
open Go.RowKit Go.Proofs.YtgfmdfgibkkfaaaW.PrintWords Go.Proofs.YtgfmdfgibkkfaaaW.PrintLast Go.Proofs.YtgfmdfgibkkfaaaW.PrintMore
attribute [local go_sem] max2_int min2_int max_two min_two max_three min_three max_four min_four
set_option maxHeartbeats 4000000 in
set_option maxRecDepth 100000 in
theorem ends_act_e.calls (k b g : Nat) (L : LS) (a : S55) (K : Int) (w : World) (h : Ends b w g L) (hb : b ≤ w.heap.size) (hK : actK a = K) (hk5 : 5 ≤ K) (hne : L.net = []) :
    Calls Try.prog 25 #[.pointer (some ⟨g, 0, none⟩), .agg #[.int .i64 a.f0, .int .i64 a.f1, .string a.f2]] w fun e w' => e = .returned (.tuple #[]) ∧ Ends b w' g (L) ∧ Below b w w' := by
  obtain ⟨f, v0, v1, vn, q0, q1, r0, r1, h⟩ := h
  have hba := below_alloc (Below.refl w.heap.size w) (.cells #[.int .i64 a.f0, .int .i64 a.f1, .string a.f2] 55 (0, 0))
  have BA := Aside0.mk (blk_new w (.cells #[.int .i64 a.f0, .int .i64 a.f1, .string a.f2] 55 (0, 0)))
  have HEV := Aside0.mk (h.fresh hba 9)
  have HF9 : Aside0 (tagf f w.heap.size 9 w.heap.size = 9) := ⟨by unfold tagf; rw [if_pos (Nat.le_refl _)]⟩
  generalize tagf f w.heap.size 9 = f at HEV HF9
  have HBW := Aside0.mk (hba.mono hb)
  have HS0 := Aside0.mk (Nat.le_trans hb hba.size)
  have a0 := blk_cell BA.out 0
  clear h hba hb
  go_enter Try.func25, Try.ntmps25
  go_upto_region 2 with (fail)
  rw [show wrap64 ((IntKind.u64.wrap a.f0).tmod 12) = K from hK]
  clear a0 hK
  generalize w.alloc (.cells #[.int .i64 a.f0, .int .i64 a.f1, .string a.f2] 55 (0, 0)) = W0 at BA HEV HBW HS0 ⊢
  generalize w.heap.size = ga at BA HF9 ⊢
  have a1 : W0.cell? ⟨ga, 1, none⟩ = some (.int .i64 a.f1) := (blk_cell BA.out 1).trans rfl
  have a2 : W0.cell? ⟨ga, 2, none⟩ = some (.string a.f2) := (blk_cell BA.out 2).trans rfl
  have k0 : (K == 0) = false := beq_eq_false_iff_ne.2 (by omega)
  have k1 : (K == 1) = false := beq_eq_false_iff_ne.2 (by omega)
  have k2 : (K == 2) = false := beq_eq_false_iff_ne.2 (by omega)
  have k3 : (K == 3) = false := beq_eq_false_iff_ne.2 (by omega)
  have k4 : (K == 4) = false := beq_eq_false_iff_ne.2 (by omega)
  obtain ⟨An, cn, hvn, hnc, hC⟩ := Kd.R_reads HEV.out.hn
  subst hvn
  have n1 : ((L.net.length : Int) == 0) = true := by rw [hne]; rfl
  have x10 : W0.cell? ⟨g, 10, none⟩ = some (.slice An L.net.length cn) := (HEV.out.cell 10).trans rfl
  have HE : Aside0 (Ends b W0 g L) := ⟨⟨f, _, _, _, _, _, _, _, HEV.out⟩⟩
  clear hC hnc
  go_wp2
  refine bodyPost_ret (results_none rfl _ _ _) rfl ?_
  exact ⟨rfl, HE.out, HBW.out⟩
set_option maxHeartbeats 4000000 in
set_option maxRecDepth 100000 in
theorem ends_act_n9.calls (k b g : Nat) (L : LS) (a : S55) (w : World) (h : Ends b w g L) (hb : b ≤ w.heap.size) (hK : actK a = 9) (i : Nat) (hi : i < L.net.length) (hln : L.net.length ≤ 1000) (hpl : wrap64 ((IntKind.u64.wrap a.f1).tmod (L.net.length : Int)) = (i : Int)) :
    Calls Try.prog 25 #[.pointer (some ⟨g, 0, none⟩), .agg #[.int .i64 a.f0, .int .i64 a.f1, .string a.f2]] w fun e w' => e = .returned (.tuple #[]) ∧ Ends b w' g ({ L with net := L.net.take i ++ L.net.drop (i + 1) }) ∧ Below b w w' := by
  obtain ⟨f, v0, v1, vn, q0, q1, r0, r1, h⟩ := h
  have hba := below_alloc (Below.refl w.heap.size w) (.cells #[.int .i64 a.f0, .int .i64 a.f1, .string a.f2] 55 (0, 0))
  have BA := Aside0.mk (blk_new w (.cells #[.int .i64 a.f0, .int .i64 a.f1, .string a.f2] 55 (0, 0)))
  have HEV := Aside0.mk (h.fresh hba 9)
  have HF9 : Aside0 (tagf f w.heap.size 9 w.heap.size = 9) := ⟨by unfold tagf; rw [if_pos (Nat.le_refl _)]⟩
  generalize tagf f w.heap.size 9 = f at HEV HF9
  have HBW := Aside0.mk (hba.mono hb)
  have HS0 := Aside0.mk (Nat.le_trans hb hba.size)
  have a0 := blk_cell BA.out 0
  clear h hba hb
  go_enter Try.func25, Try.ntmps25
  go_upto_region 2 with (fail)
  rw [show wrap64 ((IntKind.u64.wrap a.f0).tmod 12) = 9 from hK]
  clear a0 hK
  generalize w.alloc (.cells #[.int .i64 a.f0, .int .i64 a.f1, .string a.f2] 55 (0, 0)) = W0 at BA HEV HBW HS0 ⊢
  generalize w.heap.size = ga at BA HF9 ⊢
  have a1 : W0.cell? ⟨ga, 1, none⟩ = some (.int .i64 a.f1) := (blk_cell BA.out 1).trans rfl
  have a2 : W0.cell? ⟨ga, 2, none⟩ = some (.string a.f2) := (blk_cell BA.out 2).trans rfl
  obtain ⟨An, cn, hvn, hnc, hC⟩ := Kd.R_reads HEV.out.hn
  subst hvn
  have hmax : L.net.length ≤ 9223372036854775807 := hC.2.1
  have HI := Aside0.mk hi
  have HP := Aside0.mk hpl
  have HCN := Aside0.mk hnc
  have n1 : ((L.net.length : Int) == 0) = false := beq_eq_false_iff_ne.2 (by omega)
  have n3 : (L.net = []) = False := eq_false (fun e => by rw [e] at hi; cases hi)
  have n2 : IntKind.u64.wrap (L.net.length : Int) = (L.net.length : Int) := by rw [IntKind.wrap_u64]; omega
  have x10 : W0.cell? ⟨g, 10, none⟩ = some (.slice An L.net.length cn) := (HEV.out.cell 10).trans rfl
  clear hC hnc
  go_upto_region 16 with (fail)
  replace BA := Aside0.mk (blk_drew BA.out)
  replace HEV := Aside0.mk HEV.out.drew
  replace HBW := Aside0.mk HBW.out.drew
  replace HS0 : Aside0 (b ≤ (World.drew W0).heap.size) := HS0
  clear a1 a2 x10
  refine start_ (n := 12) (S := fun w' => w'.cell? ⟨ga, 1, none⟩ = some (.int .i64 a.f1) ∧ w'.cell? ⟨g, 10, none⟩ = some (.slice An L.net.length cn)) (ds := []) #[false, false, false, false, false, false, false, false, false, false, false, false] (by kernel_rfl) rfl rfl ⟨((blk_cell BA.out 1).trans rfl), ((HEV.out.cell 10).trans rfl)⟩ (fun hHeld => ?_)
  generalize World.drew W0 = V at BA HEV HBW HS0 hHeld ⊢
  refine pure_ (i := 0) (N := some 63) (v := ?_) (a' := ?_) #[true, false, false, false, false, false, false, false, false, false, false, false] rfl rfl (by kernel_rfl) (fun _ _ _ h => h) (Or.inl ⟨by rfl, ?_⟩) ?_ ?_
  rotate_left
  · intro w'
    go_simp
    with_reducible rfl
  rotate_left
  · exact put_
  refine pure_ (i := 3) (N := some 66) (v := ?_) (a' := ?_) #[true, false, false, true, false, false, false, false, false, false, false, false] rfl rfl (by kernel_rfl) (fun _ _ _ h => h) (Or.inl ⟨by rfl, ?_⟩) ?_ ?_
  rotate_left
  · intro w'
    go_simp
    with_reducible rfl
  rotate_left
  · exact put_
  refine pure_ (i := 4) (N := some 67) (v := ?_) (a' := ?_) #[true, false, false, true, true, false, false, false, false, false, false, false] rfl rfl (by kernel_rfl) (fun _ _ _ h => h) (Or.inl ⟨by rfl, ?_⟩) ?_ ?_
  rotate_left
  · intro w'
    go_simp
    with_reducible rfl
  rotate_left
  · exact put_
  refine pure_ (i := 5) (N := some 68) (v := ?_) (a' := ?_) #[true, false, false, true, true, true, false, false, false, false, false, false] rfl rfl (by kernel_rfl) (fun _ _ _ h => h) (Or.inl ⟨by rfl, ?_⟩) ?_ ?_
  rotate_left
  · intro w'
    go_simp
    with_reducible rfl
  rotate_left
  · exact put_
  refine take_ (i := 1) (N := some 64) (v := ?_) (a' := ?_) #[true, true, false, true, true, true, false, false, false, false, false, false] rfl rfl (by kernel_rfl) (fun _ _ _ h => h) (Or.inl ⟨by rfl, ?_⟩) hHeld ?_ ?_
  rotate_left
  · rintro w' ⟨s0, s1⟩
    go_simp
    with_reducible rfl
  rotate_left
  · exact put_
  refine pure_ (i := 2) (N := some 65) (v := ?_) (a' := ?_) #[true, true, true, true, true, true, false, false, false, false, false, false] rfl rfl (by kernel_rfl) (fun _ _ _ h => h) (Or.inl ⟨by rfl, ?_⟩) ?_ ?_
  rotate_left
  · intro w'
    go_simp
    with_reducible rfl
  rotate_left
  · exact put_
  refine take_ (i := 6) (N := some 69) (v := ?_) (a' := ?_) #[true, true, true, true, true, true, true, false, false, false, false, false] rfl rfl (by kernel_rfl) (fun _ _ _ h => h) (Or.inl ⟨by rfl, ?_⟩) hHeld ?_ ?_
  rotate_left
  · rintro w' ⟨s0, s1⟩
    go_simp
    with_reducible rfl
  rotate_left
  · exact put_
  refine pure_ (i := 7) (N := some 70) (v := ?_) (a' := ?_) #[true, true, true, true, true, true, true, true, false, false, false, false] rfl rfl (by kernel_rfl) (fun _ _ _ h => h) (Or.inl ⟨by rfl, ?_⟩) ?_ ?_
  rotate_left
  · intro w'
    go_simp
    with_reducible rfl
  rotate_left
  · exact put_
  refine pure_ (i := 8) (N := some 71) (v := ?_) (a' := ?_) #[true, true, true, true, true, true, true, true, true, false, false, false] rfl rfl (by kernel_rfl) (fun _ _ _ h => h) (Or.inl ⟨by rfl, ?_⟩) ?_ ?_
  rotate_left
  · intro w'
    go_simp
    with_reducible rfl
  rotate_left
  · exact put_
  refine pure_ (i := 9) (N := some 72) (v := ?_) (a' := ?_) #[true, true, true, true, true, true, true, true, true, true, false, false] rfl rfl (by kernel_rfl) (fun _ _ _ h => h) (Or.inl ⟨by rfl, ?_⟩) ?_ ?_
  rotate_left
  · intro w'
    go_simp
    with_reducible rfl
  rotate_left
  · exact put_
  refine pure_ (i := 10) (N := some 73) (v := ?_) (a' := ?_) #[true, true, true, true, true, true, true, true, true, true, true, false] rfl rfl (by kernel_rfl) (fun _ _ _ h => h) (Or.inl ⟨by rfl, ?_⟩) ?_ ?_
  rotate_left
  · intro w'
    go_simp
    with_reducible rfl
  rotate_left
  · exact put_
  refine pure_ (i := 11) (N := some 7) (v := ?_) (a' := ?_) #[true, true, true, true, true, true, true, true, true, true, true, true] rfl rfl (by kernel_rfl) (fun _ _ _ h => h) (Or.inl ⟨by rfl, ?_⟩) ?_ ?_
  rotate_left
  · intro w'
    go_simp
    with_reducible rfl
  rotate_left
  · exact put_
  refine done_ (by kernel_rfl) ?_
  rw [show wrap64 ((IntKind.u64.wrap a.f1).tmod (L.net.length : Int)) = (i : Int) from HP.out]
  have HE : Aside0 (Ends b V g L) := ⟨⟨f, _, _, _, _, _, _, _, HEV.out⟩⟩
  go_wp2_with fail
  (with_reducible refine (ends_gone.calls b g i L _ HE.out HS0.out HI.out hln).mono ?_)
  rintro e w1 ⟨rfl, he, hb⟩
  go_wp2
  refine bodyPost_end (results_none rfl _ _ _) rfl ?_
  exact ⟨rfl, he, HBW.out.trans hb⟩
set_option maxHeartbeats 4000000 in
set_option maxRecDepth 100000 in
theorem ends_act_n10.calls (k b g : Nat) (L : LS) (a : S55) (w : World) (h : Ends b w g L) (hb : b ≤ w.heap.size) (hK : actK a = 10) (i : Nat) (hi : i < L.net.length) (hln : L.net.length ≤ 1000) (hpl : wrap64 ((IntKind.u64.wrap a.f1).tmod (L.net.length : Int)) = (i : Int)) :
    Calls Try.prog 25 #[.pointer (some ⟨g, 0, none⟩), .agg #[.int .i64 a.f0, .int .i64 a.f1, .string a.f2]] w fun e w' => e = .returned (.tuple #[]) ∧ Ends b w' g (L.send (rd_T65 L.net i)) ∧ Below b w w' := by
  obtain ⟨f, v0, v1, vn, q0, q1, r0, r1, h⟩ := h
  have hba := below_alloc (Below.refl w.heap.size w) (.cells #[.int .i64 a.f0, .int .i64 a.f1, .string a.f2] 55 (0, 0))
  have BA := Aside0.mk (blk_new w (.cells #[.int .i64 a.f0, .int .i64 a.f1, .string a.f2] 55 (0, 0)))
  have HEV := Aside0.mk (h.fresh hba 9)
  have HF9 : Aside0 (tagf f w.heap.size 9 w.heap.size = 9) := ⟨by unfold tagf; rw [if_pos (Nat.le_refl _)]⟩
  generalize tagf f w.heap.size 9 = f at HEV HF9
  have HBW := Aside0.mk (hba.mono hb)
  have HS0 := Aside0.mk (Nat.le_trans hb hba.size)
  have a0 := blk_cell BA.out 0
  clear h hba hb
  go_enter Try.func25, Try.ntmps25
  go_upto_region 2 with (fail)
  rw [show wrap64 ((IntKind.u64.wrap a.f0).tmod 12) = 10 from hK]
  clear a0 hK
  generalize w.alloc (.cells #[.int .i64 a.f0, .int .i64 a.f1, .string a.f2] 55 (0, 0)) = W0 at BA HEV HBW HS0 ⊢
  generalize w.heap.size = ga at BA HF9 ⊢
  have a1 : W0.cell? ⟨ga, 1, none⟩ = some (.int .i64 a.f1) := (blk_cell BA.out 1).trans rfl
  have a2 : W0.cell? ⟨ga, 2, none⟩ = some (.string a.f2) := (blk_cell BA.out 2).trans rfl
  obtain ⟨An, cn, hvn, hnc, hC⟩ := Kd.R_reads HEV.out.hn
  subst hvn
  have hmax : L.net.length ≤ 9223372036854775807 := hC.2.1
  have HI := Aside0.mk hi
  have HP := Aside0.mk hpl
  have HCN := Aside0.mk hnc
  have n1 : ((L.net.length : Int) == 0) = false := beq_eq_false_iff_ne.2 (by omega)
  have n3 : (L.net = []) = False := eq_false (fun e => by rw [e] at hi; cases hi)
  have n2 : IntKind.u64.wrap (L.net.length : Int) = (L.net.length : Int) := by rw [IntKind.wrap_u64]; omega
  have x10 : W0.cell? ⟨g, 10, none⟩ = some (.slice An L.net.length cn) := (HEV.out.cell 10).trans rfl
  clear hC hnc
  go_upto_region 16 with (fail)
  replace BA := Aside0.mk (blk_drew BA.out)
  replace HEV := Aside0.mk HEV.out.drew
  replace HBW := Aside0.mk HBW.out.drew
  replace HS0 : Aside0 (b ≤ (World.drew W0).heap.size) := HS0
  clear a1 a2 x10
  refine start_ (n := 12) (S := fun w' => w'.cell? ⟨ga, 1, none⟩ = some (.int .i64 a.f1) ∧ w'.cell? ⟨g, 10, none⟩ = some (.slice An L.net.length cn)) (ds := []) #[false, false, false, false, false, false, false, false, false, false, false, false] (by kernel_rfl) rfl rfl ⟨((blk_cell BA.out 1).trans rfl), ((HEV.out.cell 10).trans rfl)⟩ (fun hHeld => ?_)
  generalize World.drew W0 = V at BA HEV HBW HS0 hHeld ⊢
  refine pure_ (i := 0) (N := some 63) (v := ?_) (a' := ?_) #[true, false, false, false, false, false, false, false, false, false, false, false] rfl rfl (by kernel_rfl) (fun _ _ _ h => h) (Or.inl ⟨by rfl, ?_⟩) ?_ ?_
  rotate_left
  · intro w'
    go_simp
    with_reducible rfl
  rotate_left
  · exact put_
  refine pure_ (i := 3) (N := some 66) (v := ?_) (a' := ?_) #[true, false, false, true, false, false, false, false, false, false, false, false] rfl rfl (by kernel_rfl) (fun _ _ _ h => h) (Or.inl ⟨by rfl, ?_⟩) ?_ ?_
  rotate_left
  · intro w'
    go_simp
    with_reducible rfl
  rotate_left
  · exact put_
  refine pure_ (i := 4) (N := some 67) (v := ?_) (a' := ?_) #[true, false, false, true, true, false, false, false, false, false, false, false] rfl rfl (by kernel_rfl) (fun _ _ _ h => h) (Or.inl ⟨by rfl, ?_⟩) ?_ ?_
  rotate_left
  · intro w'
    go_simp
    with_reducible rfl
  rotate_left
  · exact put_
  refine pure_ (i := 5) (N := some 68) (v := ?_) (a' := ?_) #[true, false, false, true, true, true, false, false, false, false, false, false] rfl rfl (by kernel_rfl) (fun _ _ _ h => h) (Or.inl ⟨by rfl, ?_⟩) ?_ ?_
  rotate_left
  · intro w'
    go_simp
    with_reducible rfl
  rotate_left
  · exact put_
  refine take_ (i := 1) (N := some 64) (v := ?_) (a' := ?_) #[true, true, false, true, true, true, false, false, false, false, false, false] rfl rfl (by kernel_rfl) (fun _ _ _ h => h) (Or.inl ⟨by rfl, ?_⟩) hHeld ?_ ?_
  rotate_left
  · rintro w' ⟨s0, s1⟩
    go_simp
    with_reducible rfl
  rotate_left
  · exact put_
  refine pure_ (i := 2) (N := some 65) (v := ?_) (a' := ?_) #[true, true, true, true, true, true, false, false, false, false, false, false] rfl rfl (by kernel_rfl) (fun _ _ _ h => h) (Or.inl ⟨by rfl, ?_⟩) ?_ ?_
  rotate_left
  · intro w'
    go_simp
    with_reducible rfl
  rotate_left
  · exact put_
  refine take_ (i := 6) (N := some 69) (v := ?_) (a' := ?_) #[true, true, true, true, true, true, true, false, false, false, false, false] rfl rfl (by kernel_rfl) (fun _ _ _ h => h) (Or.inl ⟨by rfl, ?_⟩) hHeld ?_ ?_
  rotate_left
  · rintro w' ⟨s0, s1⟩
    go_simp
    with_reducible rfl
  rotate_left
  · exact put_
  refine pure_ (i := 7) (N := some 70) (v := ?_) (a' := ?_) #[true, true, true, true, true, true, true, true, false, false, false, false] rfl rfl (by kernel_rfl) (fun _ _ _ h => h) (Or.inl ⟨by rfl, ?_⟩) ?_ ?_
  rotate_left
  · intro w'
    go_simp
    with_reducible rfl
  rotate_left
  · exact put_
  refine pure_ (i := 8) (N := some 71) (v := ?_) (a' := ?_) #[true, true, true, true, true, true, true, true, true, false, false, false] rfl rfl (by kernel_rfl) (fun _ _ _ h => h) (Or.inl ⟨by rfl, ?_⟩) ?_ ?_
  rotate_left
  · intro w'
    go_simp
    with_reducible rfl
  rotate_left
  · exact put_
  refine pure_ (i := 9) (N := some 72) (v := ?_) (a' := ?_) #[true, true, true, true, true, true, true, true, true, true, false, false] rfl rfl (by kernel_rfl) (fun _ _ _ h => h) (Or.inl ⟨by rfl, ?_⟩) ?_ ?_
  rotate_left
  · intro w'
    go_simp
    with_reducible rfl
  rotate_left
  · exact put_
  refine pure_ (i := 10) (N := some 73) (v := ?_) (a' := ?_) #[true, true, true, true, true, true, true, true, true, true, true, false] rfl rfl (by kernel_rfl) (fun _ _ _ h => h) (Or.inl ⟨by rfl, ?_⟩) ?_ ?_
  rotate_left
  · intro w'
    go_simp
    with_reducible rfl
  rotate_left
  · exact put_
  refine pure_ (i := 11) (N := some 7) (v := ?_) (a' := ?_) #[true, true, true, true, true, true, true, true, true, true, true, true] rfl rfl (by kernel_rfl) (fun _ _ _ h => h) (Or.inl ⟨by rfl, ?_⟩) ?_ ?_
  rotate_left
  · intro w'
    go_simp
    with_reducible rfl
  rotate_left
  · exact put_
  refine done_ (by kernel_rfl) ?_
  rw [show wrap64 ((IntKind.u64.wrap a.f1).tmod (L.net.length : Int)) = (i : Int) from HP.out]
  obtain ⟨ad, hA, z0, z1, z2⟩ := at_T65 (Kd.R_reads' HEV.out.hn).2.2 (i : Int) (by omega) (by have := HI.out; omega)
  subst hA
  rw [Int.toNat_natCast] at z0 z1 z2
  have HE : Aside0 (Ends b V g L) := ⟨⟨f, _, _, _, _, _, _, _, HEV.out⟩⟩
  have x10 : V.cell? ⟨g, 10, none⟩ = some (.slice (some ad) L.net.length cn) := (HEV.out.cell 10).trans rfl
  have d1 : (0 : Int) ≤ (i : Int) := by omega
  have d2 : (i : Int) < (L.net.length : Int) := by have := HI.out; omega
  obtain ⟨p, hp⟩ : ∃ p, p = rd_T65 L.net i := ⟨_, rfl⟩
  rw [← hp] at z0 z1 z2
  have HP2 := Aside0.mk hp
  clear hp
  go_wp2_with fail
  (with_reducible refine (ends_send.calls b g L p _ HE.out HS0.out).mono ?_)
  rintro e w1 ⟨rfl, he, hb⟩
  go_wp2
  refine bodyPost_end (results_none rfl _ _ _) rfl ?_
  exact ⟨rfl, by rw [← HP2.out]; exact he, HBW.out.trans hb⟩
set_option maxHeartbeats 4000000 in
set_option maxRecDepth 100000 in
theorem ends_act_c0.calls (k b g : Nat) (L : LS) (a : S55) (K : Int) (w : World) (h : Ends b w g L) (hb : b ≤ w.heap.size) (hK : actK a = K) (hk5 : 5 ≤ K ∧ K ≤ 8) (i : Nat) (hi : i < L.net.length) (hln : L.net.length ≤ 1000) (hpl : wrap64 ((IntKind.u64.wrap a.f1).tmod (L.net.length : Int)) = (i : Int)) (hto : (rd_T65 L.net i).f0 = 0) (R : link_Take.Res) (hlc : L.c0.length ≤ 1000) (hk : link_Take.f k L.x0.f0 L.x0.f1 L.x0.f2 L.x0.f3 L.x0.f4 (rd_T65 L.net i).f1 = some R) :
    Calls Try.prog 25 #[.pointer (some ⟨g, 0, none⟩), .agg #[.int .i64 a.f0, .int .i64 a.f1, .string a.f2]] w fun e w' => e = .returned (.tuple #[]) ∧ Ends b w' g (LS.comes0 { L with net := L.net.take i ++ L.net.drop (i + 1) } R) ∧ Below b w w' := by
  obtain ⟨f, v0, v1, vn, q0, q1, r0, r1, h⟩ := h
  have hba := below_alloc (Below.refl w.heap.size w) (.cells #[.int .i64 a.f0, .int .i64 a.f1, .string a.f2] 55 (0, 0))
  have BA := Aside0.mk (blk_new w (.cells #[.int .i64 a.f0, .int .i64 a.f1, .string a.f2] 55 (0, 0)))
  have HEV := Aside0.mk (h.fresh hba 9)
  have HF9 : Aside0 (tagf f w.heap.size 9 w.heap.size = 9) := ⟨by unfold tagf; rw [if_pos (Nat.le_refl _)]⟩
  generalize tagf f w.heap.size 9 = f at HEV HF9
  have HBW := Aside0.mk (hba.mono hb)
  have HS0 := Aside0.mk (Nat.le_trans hb hba.size)
  have a0 := blk_cell BA.out 0
  clear h hba hb
  go_enter Try.func25, Try.ntmps25
  go_upto_region 2 with (fail)
  rw [show wrap64 ((IntKind.u64.wrap a.f0).tmod 12) = K from hK]
  clear a0 hK
  generalize w.alloc (.cells #[.int .i64 a.f0, .int .i64 a.f1, .string a.f2] 55 (0, 0)) = W0 at BA HEV HBW HS0 ⊢
  generalize w.heap.size = ga at BA HF9 ⊢
  have a1 : W0.cell? ⟨ga, 1, none⟩ = some (.int .i64 a.f1) := (blk_cell BA.out 1).trans rfl
  have a2 : W0.cell? ⟨ga, 2, none⟩ = some (.string a.f2) := (blk_cell BA.out 2).trans rfl
  have k0 : ((K : Int) == 0) = false := beq_eq_false_iff_ne.2 (by omega)
  have k1 : ((K : Int) == 1) = false := beq_eq_false_iff_ne.2 (by omega)
  have k2 : ((K : Int) == 2) = false := beq_eq_false_iff_ne.2 (by omega)
  have k3 : ((K : Int) == 3) = false := beq_eq_false_iff_ne.2 (by omega)
  have k4 : ((K : Int) == 4) = false := beq_eq_false_iff_ne.2 (by omega)
  have k9 : ((K : Int) == 9) = false := beq_eq_false_iff_ne.2 (by omega)
  have k10 : ((K : Int) == 10) = false := beq_eq_false_iff_ne.2 (by omega)
  have k11 : ((K : Int) == 11) = false := beq_eq_false_iff_ne.2 (by omega)
  obtain ⟨An, cn, hvn, hnc, hC⟩ := Kd.R_reads HEV.out.hn
  subst hvn
  have hmax : L.net.length ≤ 9223372036854775807 := hC.2.1
  have HI := Aside0.mk hi
  have HP := Aside0.mk hpl
  have HCN := Aside0.mk hnc
  have n1 : ((L.net.length : Int) == 0) = false := beq_eq_false_iff_ne.2 (by omega)
  have n3 : (L.net = []) = False := eq_false (fun e => by rw [e] at hi; cases hi)
  have n2 : IntKind.u64.wrap (L.net.length : Int) = (L.net.length : Int) := by rw [IntKind.wrap_u64]; omega
  have x10 : W0.cell? ⟨g, 10, none⟩ = some (.slice An L.net.length cn) := (HEV.out.cell 10).trans rfl
  clear hC hnc
  go_upto_region 16 with (fail)
  replace BA := Aside0.mk (blk_drew BA.out)
  replace HEV := Aside0.mk HEV.out.drew
  replace HBW := Aside0.mk HBW.out.drew
  replace HS0 : Aside0 (b ≤ (World.drew W0).heap.size) := HS0
  clear a1 a2 x10
  refine start_ (n := 12) (S := fun w' => w'.cell? ⟨ga, 1, none⟩ = some (.int .i64 a.f1) ∧ w'.cell? ⟨g, 10, none⟩ = some (.slice An L.net.length cn)) (ds := []) #[false, false, false, false, false, false, false, false, false, false, false, false] (by kernel_rfl) rfl rfl ⟨((blk_cell BA.out 1).trans rfl), ((HEV.out.cell 10).trans rfl)⟩ (fun hHeld => ?_)
  generalize World.drew W0 = V at BA HEV HBW HS0 hHeld ⊢
  refine pure_ (i := 0) (N := some 63) (v := ?_) (a' := ?_) #[true, false, false, false, false, false, false, false, false, false, false, false] rfl rfl (by kernel_rfl) (fun _ _ _ h => h) (Or.inl ⟨by rfl, ?_⟩) ?_ ?_
  rotate_left
  · intro w'
    go_simp
    with_reducible rfl
  rotate_left
  · exact put_
  refine pure_ (i := 3) (N := some 66) (v := ?_) (a' := ?_) #[true, false, false, true, false, false, false, false, false, false, false, false] rfl rfl (by kernel_rfl) (fun _ _ _ h => h) (Or.inl ⟨by rfl, ?_⟩) ?_ ?_
  rotate_left
  · intro w'
    go_simp
    with_reducible rfl
  rotate_left
  · exact put_
  refine pure_ (i := 4) (N := some 67) (v := ?_) (a' := ?_) #[true, false, false, true, true, false, false, false, false, false, false, false] rfl rfl (by kernel_rfl) (fun _ _ _ h => h) (Or.inl ⟨by rfl, ?_⟩) ?_ ?_
  rotate_left
  · intro w'
    go_simp
    with_reducible rfl
  rotate_left
  · exact put_
  refine pure_ (i := 5) (N := some 68) (v := ?_) (a' := ?_) #[true, false, false, true, true, true, false, false, false, false, false, false] rfl rfl (by kernel_rfl) (fun _ _ _ h => h) (Or.inl ⟨by rfl, ?_⟩) ?_ ?_
  rotate_left
  · intro w'
    go_simp
    with_reducible rfl
  rotate_left
  · exact put_
  refine take_ (i := 1) (N := some 64) (v := ?_) (a' := ?_) #[true, true, false, true, true, true, false, false, false, false, false, false] rfl rfl (by kernel_rfl) (fun _ _ _ h => h) (Or.inl ⟨by rfl, ?_⟩) hHeld ?_ ?_
  rotate_left
  · rintro w' ⟨s0, s1⟩
    go_simp
    with_reducible rfl
  rotate_left
  · exact put_
  refine pure_ (i := 2) (N := some 65) (v := ?_) (a' := ?_) #[true, true, true, true, true, true, false, false, false, false, false, false] rfl rfl (by kernel_rfl) (fun _ _ _ h => h) (Or.inl ⟨by rfl, ?_⟩) ?_ ?_
  rotate_left
  · intro w'
    go_simp
    with_reducible rfl
  rotate_left
  · exact put_
  refine take_ (i := 6) (N := some 69) (v := ?_) (a' := ?_) #[true, true, true, true, true, true, true, false, false, false, false, false] rfl rfl (by kernel_rfl) (fun _ _ _ h => h) (Or.inl ⟨by rfl, ?_⟩) hHeld ?_ ?_
  rotate_left
  · rintro w' ⟨s0, s1⟩
    go_simp
    with_reducible rfl
  rotate_left
  · exact put_
  refine pure_ (i := 7) (N := some 70) (v := ?_) (a' := ?_) #[true, true, true, true, true, true, true, true, false, false, false, false] rfl rfl (by kernel_rfl) (fun _ _ _ h => h) (Or.inl ⟨by rfl, ?_⟩) ?_ ?_
  rotate_left
  · intro w'
    go_simp
    with_reducible rfl
  rotate_left
  · exact put_
  refine pure_ (i := 8) (N := some 71) (v := ?_) (a' := ?_) #[true, true, true, true, true, true, true, true, true, false, false, false] rfl rfl (by kernel_rfl) (fun _ _ _ h => h) (Or.inl ⟨by rfl, ?_⟩) ?_ ?_
  rotate_left
  · intro w'
    go_simp
    with_reducible rfl
  rotate_left
  · exact put_
  refine pure_ (i := 9) (N := some 72) (v := ?_) (a' := ?_) #[true, true, true, true, true, true, true, true, true, true, false, false] rfl rfl (by kernel_rfl) (fun _ _ _ h => h) (Or.inl ⟨by rfl, ?_⟩) ?_ ?_
  rotate_left
  · intro w'
    go_simp
    with_reducible rfl
  rotate_left
  · exact put_
  refine pure_ (i := 10) (N := some 73) (v := ?_) (a' := ?_) #[true, true, true, true, true, true, true, true, true, true, true, false] rfl rfl (by kernel_rfl) (fun _ _ _ h => h) (Or.inl ⟨by rfl, ?_⟩) ?_ ?_
  rotate_left
  · intro w'
    go_simp
    with_reducible rfl
  rotate_left
  · exact put_
  refine pure_ (i := 11) (N := some 7) (v := ?_) (a' := ?_) #[true, true, true, true, true, true, true, true, true, true, true, true] rfl rfl (by kernel_rfl) (fun _ _ _ h => h) (Or.inl ⟨by rfl, ?_⟩) ?_ ?_
  rotate_left
  · intro w'
    go_simp
    with_reducible rfl
  rotate_left
  · exact put_
  refine done_ (by kernel_rfl) ?_
  rw [show wrap64 ((IntKind.u64.wrap a.f1).tmod (L.net.length : Int)) = (i : Int) from HP.out]
  have HE : Aside0 (Ends b V g L) := ⟨⟨f, _, _, _, _, _, _, _, HEV.out⟩⟩
  have hgone := ends_gone.calls b g i L _ HE.out HS0.out HI.out hln
  rw [hto] at hgone
  have HGO := Aside0.mk hgone
  have HLC := Aside0.mk hlc
  have HK := Aside0.mk hk
  clear hgone hlc hk
  go_wp2_with fail
  (with_reducible refine HGO.out.mono ?_)
  rintro e w1 ⟨rfl, he, hb⟩
  have HE1 := Aside0.mk he
  have HB1 := Aside0.mk (HBW.out.trans hb)
  have HS1 := Aside0.mk (Nat.le_trans HS0.out hb.size)
  clear he hb HGO HE
  go_wp2_with fail
  (with_reducible refine (ends_comes0.calls k b g { L with net := L.net.take i ++ L.net.drop (i + 1) } (rd_T65 L.net i).f1 (rd_T65 L.net i).f2 R _ HE1.out HS1.out HLC.out HK.out).mono ?_)
  rintro e w2 ⟨rfl, he, hb⟩
  go_wp2
  refine bodyPost_end (results_none rfl _ _ _) rfl ?_
  exact ⟨rfl, he, HB1.out.trans hb⟩
set_option maxHeartbeats 4000000 in
set_option maxRecDepth 100000 in
theorem ends_act_c1.calls (k b g : Nat) (L : LS) (a : S55) (K : Int) (w : World) (h : Ends b w g L) (hb : b ≤ w.heap.size) (hK : actK a = K) (hk5 : 5 ≤ K ∧ K ≤ 8) (i : Nat) (hi : i < L.net.length) (hln : L.net.length ≤ 1000) (hpl : wrap64 ((IntKind.u64.wrap a.f1).tmod (L.net.length : Int)) = (i : Int)) (hto : (rd_T65 L.net i).f0 = 1) (R : link_Take.Res) (hlc : L.c1.length ≤ 1000) (hk : link_Take.f k L.x1.f0 L.x1.f1 L.x1.f2 L.x1.f3 L.x1.f4 (rd_T65 L.net i).f1 = some R) :
    Calls Try.prog 25 #[.pointer (some ⟨g, 0, none⟩), .agg #[.int .i64 a.f0, .int .i64 a.f1, .string a.f2]] w fun e w' => e = .returned (.tuple #[]) ∧ Ends b w' g (LS.comes1 { L with net := L.net.take i ++ L.net.drop (i + 1) } R) ∧ Below b w w' := by
  obtain ⟨f, v0, v1, vn, q0, q1, r0, r1, h⟩ := h
  have hba := below_alloc (Below.refl w.heap.size w) (.cells #[.int .i64 a.f0, .int .i64 a.f1, .string a.f2] 55 (0, 0))
  have BA := Aside0.mk (blk_new w (.cells #[.int .i64 a.f0, .int .i64 a.f1, .string a.f2] 55 (0, 0)))
  have HEV := Aside0.mk (h.fresh hba 9)
  have HF9 : Aside0 (tagf f w.heap.size 9 w.heap.size = 9) := ⟨by unfold tagf; rw [if_pos (Nat.le_refl _)]⟩
  generalize tagf f w.heap.size 9 = f at HEV HF9
  have HBW := Aside0.mk (hba.mono hb)
  have HS0 := Aside0.mk (Nat.le_trans hb hba.size)
  have a0 := blk_cell BA.out 0
  clear h hba hb
  go_enter Try.func25, Try.ntmps25
  go_upto_region 2 with (fail)
  rw [show wrap64 ((IntKind.u64.wrap a.f0).tmod 12) = K from hK]
  clear a0 hK
  generalize w.alloc (.cells #[.int .i64 a.f0, .int .i64 a.f1, .string a.f2] 55 (0, 0)) = W0 at BA HEV HBW HS0 ⊢
  generalize w.heap.size = ga at BA HF9 ⊢
  have a1 : W0.cell? ⟨ga, 1, none⟩ = some (.int .i64 a.f1) := (blk_cell BA.out 1).trans rfl
  have a2 : W0.cell? ⟨ga, 2, none⟩ = some (.string a.f2) := (blk_cell BA.out 2).trans rfl
  have k0 : ((K : Int) == 0) = false := beq_eq_false_iff_ne.2 (by omega)
  have k1 : ((K : Int) == 1) = false := beq_eq_false_iff_ne.2 (by omega)
  have k2 : ((K : Int) == 2) = false := beq_eq_false_iff_ne.2 (by omega)
  have k3 : ((K : Int) == 3) = false := beq_eq_false_iff_ne.2 (by omega)
  have k4 : ((K : Int) == 4) = false := beq_eq_false_iff_ne.2 (by omega)
  have k9 : ((K : Int) == 9) = false := beq_eq_false_iff_ne.2 (by omega)
  have k10 : ((K : Int) == 10) = false := beq_eq_false_iff_ne.2 (by omega)
  have k11 : ((K : Int) == 11) = false := beq_eq_false_iff_ne.2 (by omega)
  obtain ⟨An, cn, hvn, hnc, hC⟩ := Kd.R_reads HEV.out.hn
  subst hvn
  have hmax : L.net.length ≤ 9223372036854775807 := hC.2.1
  have HI := Aside0.mk hi
  have HP := Aside0.mk hpl
  have HCN := Aside0.mk hnc
  have n1 : ((L.net.length : Int) == 0) = false := beq_eq_false_iff_ne.2 (by omega)
  have n3 : (L.net = []) = False := eq_false (fun e => by rw [e] at hi; cases hi)
  have n2 : IntKind.u64.wrap (L.net.length : Int) = (L.net.length : Int) := by rw [IntKind.wrap_u64]; omega
  have x10 : W0.cell? ⟨g, 10, none⟩ = some (.slice An L.net.length cn) := (HEV.out.cell 10).trans rfl
  clear hC hnc
  go_upto_region 16 with (fail)
  replace BA := Aside0.mk (blk_drew BA.out)
  replace HEV := Aside0.mk HEV.out.drew
  replace HBW := Aside0.mk HBW.out.drew
  replace HS0 : Aside0 (b ≤ (World.drew W0).heap.size) := HS0
  clear a1 a2 x10
  refine start_ (n := 12) (S := fun w' => w'.cell? ⟨ga, 1, none⟩ = some (.int .i64 a.f1) ∧ w'.cell? ⟨g, 10, none⟩ = some (.slice An L.net.length cn)) (ds := []) #[false, false, false, false, false, false, false, false, false, false, false, false] (by kernel_rfl) rfl rfl ⟨((blk_cell BA.out 1).trans rfl), ((HEV.out.cell 10).trans rfl)⟩ (fun hHeld => ?_)
  generalize World.drew W0 = V at BA HEV HBW HS0 hHeld ⊢
  refine pure_ (i := 0) (N := some 63) (v := ?_) (a' := ?_) #[true, false, false, false, false, false, false, false, false, false, false, false] rfl rfl (by kernel_rfl) (fun _ _ _ h => h) (Or.inl ⟨by rfl, ?_⟩) ?_ ?_
  rotate_left
  · intro w'
    go_simp
    with_reducible rfl
  rotate_left
  · exact put_
  refine pure_ (i := 3) (N := some 66) (v := ?_) (a' := ?_) #[true, false, false, true, false, false, false, false, false, false, false, false] rfl rfl (by kernel_rfl) (fun _ _ _ h => h) (Or.inl ⟨by rfl, ?_⟩) ?_ ?_
  rotate_left
  · intro w'
    go_simp
    with_reducible rfl
  rotate_left
  · exact put_
  refine pure_ (i := 4) (N := some 67) (v := ?_) (a' := ?_) #[true, false, false, true, true, false, false, false, false, false, false, false] rfl rfl (by kernel_rfl) (fun _ _ _ h => h) (Or.inl ⟨by rfl, ?_⟩) ?_ ?_
  rotate_left
  · intro w'
    go_simp
    with_reducible rfl
  rotate_left
  · exact put_
  refine pure_ (i := 5) (N := some 68) (v := ?_) (a' := ?_) #[true, false, false, true, true, true, false, false, false, false, false, false] rfl rfl (by kernel_rfl) (fun _ _ _ h => h) (Or.inl ⟨by rfl, ?_⟩) ?_ ?_
  rotate_left
  · intro w'
    go_simp
    with_reducible rfl
  rotate_left
  · exact put_
  refine take_ (i := 1) (N := some 64) (v := ?_) (a' := ?_) #[true, true, false, true, true, true, false, false, false, false, false, false] rfl rfl (by kernel_rfl) (fun _ _ _ h => h) (Or.inl ⟨by rfl, ?_⟩) hHeld ?_ ?_
  rotate_left
  · rintro w' ⟨s0, s1⟩
    go_simp
    with_reducible rfl
  rotate_left
  · exact put_
  refine pure_ (i := 2) (N := some 65) (v := ?_) (a' := ?_) #[true, true, true, true, true, true, false, false, false, false, false, false] rfl rfl (by kernel_rfl) (fun _ _ _ h => h) (Or.inl ⟨by rfl, ?_⟩) ?_ ?_
  rotate_left
  · intro w'
    go_simp
    with_reducible rfl
  rotate_left
  · exact put_
  refine take_ (i := 6) (N := some 69) (v := ?_) (a' := ?_) #[true, true, true, true, true, true, true, false, false, false, false, false] rfl rfl (by kernel_rfl) (fun _ _ _ h => h) (Or.inl ⟨by rfl, ?_⟩) hHeld ?_ ?_
  rotate_left
  · rintro w' ⟨s0, s1⟩
    go_simp
    with_reducible rfl
  rotate_left
  · exact put_
  refine pure_ (i := 7) (N := some 70) (v := ?_) (a' := ?_) #[true, true, true, true, true, true, true, true, false, false, false, false] rfl rfl (by kernel_rfl) (fun _ _ _ h => h) (Or.inl ⟨by rfl, ?_⟩) ?_ ?_
  rotate_left
  · intro w'
    go_simp
    with_reducible rfl
  rotate_left
  · exact put_
  refine pure_ (i := 8) (N := some 71) (v := ?_) (a' := ?_) #[true, true, true, true, true, true, true, true, true, false, false, false] rfl rfl (by kernel_rfl) (fun _ _ _ h => h) (Or.inl ⟨by rfl, ?_⟩) ?_ ?_
  rotate_left
  · intro w'
    go_simp
    with_reducible rfl
  rotate_left
  · exact put_
  refine pure_ (i := 9) (N := some 72) (v := ?_) (a' := ?_) #[true, true, true, true, true, true, true, true, true, true, false, false] rfl rfl (by kernel_rfl) (fun _ _ _ h => h) (Or.inl ⟨by rfl, ?_⟩) ?_ ?_
  rotate_left
  · intro w'
    go_simp
    with_reducible rfl
  rotate_left
  · exact put_
  refine pure_ (i := 10) (N := some 73) (v := ?_) (a' := ?_) #[true, true, true, true, true, true, true, true, true, true, true, false] rfl rfl (by kernel_rfl) (fun _ _ _ h => h) (Or.inl ⟨by rfl, ?_⟩) ?_ ?_
  rotate_left
  · intro w'
    go_simp
    with_reducible rfl
  rotate_left
  · exact put_
  refine pure_ (i := 11) (N := some 7) (v := ?_) (a' := ?_) #[true, true, true, true, true, true, true, true, true, true, true, true] rfl rfl (by kernel_rfl) (fun _ _ _ h => h) (Or.inl ⟨by rfl, ?_⟩) ?_ ?_
  rotate_left
  · intro w'
    go_simp
    with_reducible rfl
  rotate_left
  · exact put_
  refine done_ (by kernel_rfl) ?_
  rw [show wrap64 ((IntKind.u64.wrap a.f1).tmod (L.net.length : Int)) = (i : Int) from HP.out]
  have HE : Aside0 (Ends b V g L) := ⟨⟨f, _, _, _, _, _, _, _, HEV.out⟩⟩
  have hgone := ends_gone.calls b g i L _ HE.out HS0.out HI.out hln
  rw [hto] at hgone
  have HGO := Aside0.mk hgone
  have HLC := Aside0.mk hlc
  have HK := Aside0.mk hk
  clear hgone hlc hk
  go_wp2_with fail
  (with_reducible refine HGO.out.mono ?_)
  rintro e w1 ⟨rfl, he, hb⟩
  have HE1 := Aside0.mk he
  have HB1 := Aside0.mk (HBW.out.trans hb)
  have HS1 := Aside0.mk (Nat.le_trans HS0.out hb.size)
  clear he hb HGO HE
  go_wp2_with fail
  (with_reducible refine (ends_comes1.calls k b g { L with net := L.net.take i ++ L.net.drop (i + 1) } (rd_T65 L.net i).f1 (rd_T65 L.net i).f2 R _ HE1.out HS1.out HLC.out HK.out).mono ?_)
  rintro e w2 ⟨rfl, he, hb⟩
  go_wp2
  refine bodyPost_end (results_none rfl _ _ _) rfl ?_
  exact ⟨rfl, he, HB1.out.trans hb⟩
end Go.Proofs.Ytgfmdfgibkkfaaa.P
