import Derived.Test.YtecfndblgefhdaaKzRx5
namespace Go.Proofs.Ytecfndblgefhdaa.R
open Go.RowKit Go.Proofs.YtecfndblgefhdaaW.PrintWords Go.Proofs.YtecfndblgefhdaaW.PrintLast Go.Proofs.YtecfndblgefhdaaW.PrintMore
attribute [local go_sem] max2_int min2_int max_two min_two max_three min_three max_four min_four
set_option linter.unusedVariables false
set_option linter.unusedSimpArgs false
def queue_clone.l0 : Nat → Int → Int → List (S51) → List (S120) → Int → Int → Option ((List (S51)) × (List (S120)) × Int × Int)
 | 0, _, _, _, _, _, _ => none
 | k + 1, x14, x15, x161000, x161001, x161002, x161003 => if x15 < x14 then (if 0 ≤ x15 then (if x15 < (x161000.length : Int) then ((api_Write_89.f ((rd_T51 x161000 x15).f2)).bind fun t169 => (queue_clone.l0 k x14 (wrap64 (x15 + 1)) (x161000.set (x15 : Int).toNat (⟨(rd_T51 x161000 x15).f0, (rd_T51 x161000 x15).f1, t169⟩ : S51)) x161001 x161002 x161003)) else (none)) else (none)) else (some (x161000, x161001, x161002, x161003))
def queue_clone.f (k : Nat) (l0_0 : List (S51)) (l0_1 : List (S120)) (a0_2 : Int) (a0_3 : Int) : Option ((List (S51)) × (List (S120)) × Int × Int) := (api_Set_88.f l0_0).bind fun t162 => ((api_Write_89.f l0_1).bind fun t165 => (queue_clone.l0 k (t162.length : Int) 0 t162 t165 a0_2 a0_3))
def queue_clone.T1 : Bool × List (List Nat × List Nat) := (true, [([], []), ([0], [0]), ([1], [1]), ([], []), ([3], [3]), ([4, 2], [4]), ([0, 1, 2, 3, 4], []), ([6, 2, 5, 0, 1, 2, 3, 4], [2, 6]), ([0, 1, 2, 3, 4, 5, 6, 7], []), ([8, 5, 7, 0, 1, 2, 3, 4, 5, 6, 7], [5, 8])])
def queue_clone.B1 : List Nat := [0, 1, 3, 0, 8, 31, 31, 127, 255, 511]
theorem queue_clone.tab1 : rtab .any (opsOf Try.f53 1) = queue_clone.T1 := by kernel_rfl
theorem queue_clone.bits1 : waitsOk queue_clone.T1.2 queue_clone.B1 = true := by kernel_rfl
def queue_clone.T5 : Bool × List (List Nat × List Nat) := (true, [([], []), ([0], [0]), ([], []), ([], []), ([3], [3]), ([], []), ([4, 5], [4, 5]), ([6], [6]), ([7], [7]), ([8], [8]), ([1, 2, 0, 1, 2, 3, 4, 5, 6, 7, 8, 9], [1, 2]), ([10, 0, 1, 2, 3, 4, 5, 6, 7, 8, 9], [10]), ([11, 9, 9, 0, 1, 2, 3, 4, 5, 6, 7, 8, 9], [9, 11])])
def queue_clone.B5 : List Nat := [0, 1, 0, 0, 8, 0, 56, 120, 248, 504, 1023, 2047, 4095]
theorem queue_clone.tab5 : rtab .any (opsOf Try.f53 5) = queue_clone.T5 := by kernel_rfl
theorem queue_clone.bits5 : waitsOk queue_clone.T5.2 queue_clone.B5 = true := by kernel_rfl
set_option maxHeartbeats 8000000 in
set_option maxRecDepth 100000 in
theorem queue_clone.calls (k : Nat) (A0_0 : Option Addr) (c0_0 : Nat) (l0_0 : List (S51)) (A0_1 : Option Addr) (c0_1 : Nat) (l0_1 : List (S120)) (a0_2 : Int) (a0_3 : Int) (r1 : List (S51)) (r2 : List (S120)) (r3 : Int) (r4 : Int) (w : World) (hr0_0 : Kd.C k51 w A0_0 l0_0.length l0_0) (hc0_0 : l0_0.length ≤ c0_0) (hr0_1 : Kd.C k120 w A0_1 l0_1.length l0_1) (hc0_1 : l0_1.length ≤ c0_1) (h : queue_clone.f k l0_0 l0_1 a0_2 a0_3 = some (r1, r2, r3, r4)) :
  Calls Try.prog 53 #[.agg #[.slice A0_0 l0_0.length c0_0, .slice A0_1 l0_1.length c0_1, .int .i64 a0_2, .int .i64 a0_3]] w fun e w' => ∃ v0_ v1_ : Value, e = .returned (.agg #[v0_, v1_, .int .i64 r3, .int .i64 r4]) ∧ Kd.N k51 51 w' w.heap.size (fun k_ => (w.heap.size ≤ k_) ∧ some k_ ≠ (v1_ : Value).ownBlock) v0_ r1 ∧ Kd.R k120 120 w' w.heap.size (fun k_ => (w.heap.size ≤ k_)) v1_ r2 ∧ Below w.heap.size w w' := by
 have hu68 := Try.underlying68
 have HR0_0 := a0_ hr0_0
 have HC0_0 := a0_ hc0_0
 clear hr0_0 hc0_0
 have HR0_1 := a0_ hr0_1
 have HC0_1 := a0_ hc0_1
 clear hr0_1 hc0_1
 have HB := a0_ (Below.refl w.heap.size w)
 have H : ((api_Set_88.f l0_0).bind fun t162 => ((api_Write_89.f l0_1).bind fun t165 => (queue_clone.l0 k (t162.length : Int) 0 t162 t165 a0_2 a0_3))) = some (r1, r2, r3, r4) := h
 clear h
 replace H := Option.bind_eq_some_iff.mp H
 obtain ⟨t162, A20, H⟩ := H
 try dsimp only at H
 have A2 := a0_ A20
 clear A20
 replace H := Option.bind_eq_some_iff.mp H
 obtain ⟨t165, A30, H⟩ := H
 try dsimp only at H
 have A3 := a0_ A30
 clear A30
 have H' := a0_ H
 clear H
 go_enter Try.func53, Try.ntmps53
 try go_wp2_with (first | ((with_reducible refine gate_dst (N := 1) rfl ?_); refine box_event ?hg (N := 1) ?hd (cs := #[.slice A0_0 l0_0.length c0_0, .slice A0_1 l0_1.length c0_1, .int .i64 a0_2, .int .i64 a0_3]) (t := 68) ?hr ?_; (case hd => rfl); (case hg => rfl); (case hr => exact z11_); intro gb160 hg w4 hbox hb; have n0_ := a0_ (below_step z3_ hb); have n1_ := a0_ (hbox); have n2_ := a0_ ((z12_ : w.heap.size ≤ gb160)); have n3_ := a0_ ((z12_ : w.heap.size ≤ gb160)); clear HB; have HB := n0_; have BK160 := n1_; have GW160 := n2_; have GE160 := n3_; clear n0_ n1_ n2_ n3_; clear hb hbox hg) | ((with_reducible refine gate_dst (N := 2) rfl ?_); refine box_event ?hg (N := 2) ?hd (cs := #[.slice none 0 0, .slice none 0 0, .int .i64 0, .int .i64 0]) (t := 68) ?hr ?_; (case hd => rfl); (case hg => rfl); (case hr => exact z11_); intro gb161 hg w5 hbox hb; have n0_ := a0_ (blk_below z155_ hb); have n1_ := a0_ (below_step z156_ hb); have n2_ := a0_ (hbox); have n3_ := a0_ ((z157_ : w.heap.size ≤ gb161)); have n4_ := a0_ ((z157_ : w.heap.size ≤ gb161)); have n5_ := a0_ ((by rw [hg]; exact Nat.ne_of_lt (blk_lt (g := gb160) (o := .cells #[.slice A0_0 l0_0.length c0_0, .slice A0_1 l0_1.length c0_1, .int .i64 a0_2, .int .i64 a0_3] 68 (0, 0)) z155_) : gb160 ≠ gb161)); have n6_ := a0_ ((by rw [hg]; exact Nat.ne_of_gt (blk_lt (g := gb160) (o := .cells #[.slice A0_0 l0_0.length c0_0, .slice A0_1 l0_1.length c0_1, .int .i64 a0_2, .int .i64 a0_3] 68 (0, 0)) z155_) : gb161 ≠ gb160)); clear BK160; clear HB; have BK160 := n0_; have HB := n1_; have BK161 := n2_; have GW161 := n3_; have GE161 := n4_; have NB160_161 := n5_; have NB161_160 := n6_; clear n0_ n1_ n2_ n3_ n4_ n5_ n6_; clear hb hbox hg))
 have n0_ := a0_ (blk_drew BK160.out)
 have n1_ := a0_ (blk_drew BK161.out)
 have n2_ := a0_ (below_drew1 HB.out)
 clear BK160
 clear BK161
 clear HB
 have BK160 := n0_
 have BK161 := n1_
 have HB := n2_
 clear n0_ n1_ n2_
 refine st_ 10 (S := fun w' => w'.cell? ⟨gb160, 0, none⟩ = some (.slice A0_0 l0_0.length c0_0) ∧ w'.cell? ⟨gb160, 1, none⟩ = some (.slice A0_1 l0_1.length c0_1) ∧ w'.cell? ⟨gb160, 2, none⟩ = some (.int .i64 a0_2) ∧ w'.cell? ⟨gb160, 3, none⟩ = some (.int .i64 a0_3)) (ds := [7, 9]) ⟨(blk_cell BK160.out 0).trans rfl, (blk_cell BK160.out 1).trans rfl, (blk_cell BK160.out 2).trans rfl, (blk_cell BK160.out 3).trans rfl⟩ (fun hHeld => ?_); refine with_tabW queue_clone.tab1 queue_clone.bits1 (fun HT_ HW_ => ?_)
 generalize w5.drew = w6 at BK160 BK161 HB hHeld ⊢
 refine pq_ 0 (some 4) rfl rfl ?_
 refine pq_ 3 (some 7) rfl rfl ?_
 refine tq_ 1 (some 5) rfl rfl hHeld ?_
 refine tq_ 4 (some 8) rfl rfl hHeld ?_
 refine oq_ 2 (some 6) rfl rfl (fun K hK => ?_)
 refine goes_ Try.func88 z6_ rfl #[.slice A0_0 l0_0.length c0_0] (by rfl) rfl rfl z16_ ?_
 with_reducible refine (api_Set_88.callsNM _ _ l0_0 t162 w _ ?side1 ?side2 HB.out A2.out).mono ?_
 (case side1 => exact HR0_0.out)
 (case side2 => exact z51_)
 rintro e w7 ⟨v163, rfl, ho0, hb⟩
 refine ⟨_, rfl, ?_⟩
 have n0_ := a0_ (NM_mono (ok' := fun k_ => (w.heap.size ≤ k_) ∧ k_ ≠ gb160 ∧ k_ ≠ gb161) ho0 (fun k_ hk_ => ⟨hk_.1, (Kd.freshB (g := gb160) (o := .cells #[.slice A0_0 l0_0.length c0_0, .slice A0_1 l0_1.length c0_1, .int .i64 a0_2, .int .i64 a0_3] 68 (0, 0)) z155_ k_ hk_.2), (Kd.freshB (g := gb161) (o := .cells #[.slice none 0 0, .slice none 0 0, .int .i64 0, .int .i64 0] 68 (0, 0)) z158_ k_ hk_.2)⟩))
 have n1_ := a0_ (blk_below z155_ hb)
 have n2_ := a0_ (blk_below z158_ hb)
 have n3_ := a0_ (below_step z159_ hb)
 clear BK160
 clear BK161
 clear HB
 have HO164 := n0_
 have BK160 := n1_
 have BK161 := n2_
 have HB := n3_
 clear n0_ n1_ n2_ n3_
 (try clear hb)
 (try clear hb2)
 (try clear hk)
 (try clear hi)
 (try clear ho0)
 refine hK.out _ _ z160_ (fun hHeld => ?_)
 clear hK K
 refine norm_ (a' := ?_) ?_ ?_
 rotate_left
 ·show Act.put _ (some 6) _ = _
  exact put_
 refine pq_ 6 (some 10) rfl rfl ?_
 refine oq_ 5 (some 9) rfl rfl (fun K hK => ?_)
 refine goes_ Try.func89 z6_ rfl #[.slice A0_1 l0_1.length c0_1] (by rfl) rfl rfl z16_ ?_
 with_reducible refine (api_Write_89.calls _ _ l0_1 t165 _ ?side1 ?side2 A3.out).mono ?_
 (case side1 => exact z52_)
 (case side2 => exact z53_)
 rintro e w8 ⟨v166, rfl, ho0, hb⟩
 refine ⟨_, rfl, ?_⟩
 have n0_ := a0_ (Kd.N_elder' (by (with_reducible repeat (first | apply Kd.N_alloc | apply Kd.N_drewN | apply Kd.N_drew)); exact HO164.out) (Kd.R_base ho0) hb)
 have n1_ := a0_ (Kd.R_lower (Kd.R_newM (M := fun k_ => (w.heap.size ≤ k_)) ho0 (below_size z159_) (fun k_ h_ => h_)) (below_size z159_))
 have n2_ := a0_ (blk_below z155_ hb)
 have n3_ := a0_ (blk_below z158_ hb)
 have n4_ := a0_ (below_step z159_ hb)
 clear HO164
 clear BK160
 clear BK161
 clear HB
 have HO164 := n0_
 have HO167 := n1_
 have BK160 := n2_
 have BK161 := n3_
 have HB := n4_
 clear n0_ n1_ n2_ n3_ n4_
 (try clear hb)
 (try clear hb2)
 (try clear hk)
 (try clear hi)
 (try clear ho0)
 obtain ⟨Ao9, co9, eo9⟩ := NM_slice HO164.out
 (first | subst eo9 | (injection eo9 with f1_ f2_ f3_; have f4_ := f1_.symm; have f5_ := f3_.symm; clear f1_ f2_ f3_; subst f4_; subst f5_))
 obtain ⟨Ao11, co11, eo11⟩ := Kd.R_slice HO167.out
 (first | subst eo11 | (injection eo11 with f1_ f2_ f3_; have f4_ := f1_.symm; have f5_ := f3_.symm; clear f1_ f2_ f3_; subst f4_; subst f5_))
 refine hK.out _ _ z160_ (fun hHeld => ?_)
 clear hK K
 refine norm_ (a' := ?_) ?_ ?_
 rotate_left
 ·show Act.put _ (some 9) _ = _
  exact put_
 refine lq_ 7 (none) rfl rfl (fun K hK => ?_)
 have hs10 : w8.cell? ⟨gb160, 0, none⟩ = some (.slice A0_0 l0_0.length c0_0) := (blk_cell BK160.out 0).trans rfl
 have hfs10 := blk_frozen BK160.out 0
 have hns10_1 := NB161_160.out
 have hms10_1 := NB160_161.out
 refine skip_ (w1 := ?_) (by rfl) rfl ?_ ?_
 rotate_left
 ·go_simp
  rfl
 refine hK.out _ _ ?_
 clear hK K
 refine pq_ 8 (some 11) rfl rfl ?_
 refine lq_ 9 (none) rfl rfl (fun K hK => ?_)
 have hs12 : w8.cell? ⟨gb160, 1, none⟩ = some (.slice A0_1 l0_1.length c0_1) := (blk_cell BK160.out 1).trans rfl
 have hfs12 := blk_frozen BK160.out 1
 have hns12_1 := NB161_160.out
 have hms12_1 := NB160_161.out
 refine skip_ (w1 := ?_) (by rfl) rfl ?_ ?_
 rotate_left
 ·go_simp
  rfl
 refine hK.out _ _ ?_
 clear hK K
 refine done_ (done_of HT_.out z6_) ?_
 have hnb13 := NB160_161.out
 have hnc13 := NB161_160.out
 have hcz14_0 : w8.cell? ⟨gb160, 0, none⟩ = some (.slice A0_0 l0_0.length c0_0) := (blk_cell BK160.out 0).trans rfl
 have hcz14_1 : w8.cell? ⟨gb160, 1, none⟩ = some (.slice A0_1 l0_1.length c0_1) := (blk_cell BK160.out 1).trans rfl
 have hcz14_2 : w8.cell? ⟨gb160, 2, none⟩ = some (.int .i64 a0_2) := (blk_cell BK160.out 2).trans rfl
 have hcz14_3 : w8.cell? ⟨gb160, 3, none⟩ = some (.int .i64 a0_3) := (blk_cell BK160.out 3).trans rfl
 obtain ⟨hfz14_0, hfz14_1, hfz14_2, hfz14_3⟩ := bf4_ BK160.out
 try go_wp2
 go_loopg [15] k (fun kq v15 w' => ∃ (x15_1 : Int) (x161000_1 : List (S51)) (u161000 : Value), v15 = .int .i64 x15_1 ∧ Aside0 (queue_clone.l0 kq (t162.length : Int) x15_1 x161000_1 t165 a0_2 a0_3 = some (r1, r2, r3, r4)) ∧ Aside0 (kq ≤ k) ∧ Aside0 (NM w x15_1.toNat w' w.heap.size (fun k_ => (w.heap.size ≤ k_) ∧ some k_ ≠ ((.slice Ao11 t165.length co11) : Value).ownBlock ∧ k_ ≠ gb160 ∧ k_ ≠ gb161) u161000 x161000_1) ∧ Aside0 (Kd.R k120 120 w' w.heap.size (fun k_ => (w.heap.size ≤ k_)) (.slice Ao11 t165.length co11) t165) ∧ Aside0 (w'.heap[gb160]? = some (.cells #[u161000, (.slice Ao11 t165.length co11), .int .i64 a0_2, .int .i64 a0_3] 68 (0, 0))) ∧ Aside0 (w'.heap[gb161]? = some (.cells #[(.slice none 0 0), (.slice none 0 0), .int .i64 0, .int .i64 0] 68 (0, 0))) ∧ Aside0 (Below w.heap.size w w') ∧ Aside0 (x161000_1.length = t162.length))
 case atStart => exact ⟨(0), (t162), (.slice Ao9 t162.length co9), z4_, H', ⟨Nat.le_refl _⟩, ⟨by (with_reducible repeat (first | apply NM_alloc | apply NM_drewN | apply NM_drew)); exact NM_mono (NM_far (p := ⟨gb160, 1, none⟩) (NM_far (p := ⟨gb160, 0, none⟩) (NM_mono HO164.out (fun k_ hk => (⟨hk, hk.1.2.1⟩ : _ ∧ k_ ≠ gb160))) (fun _ hk => hk.2) (.slice Ao9 t162.length co9)) (fun _ hk => hk.2) (.slice Ao11 t165.length co11)) (fun _ hk => ⟨hk.1.1.1, ⟨hk.1.2, ⟨hk.1.1.2.1, hk.1.1.2.2⟩⟩⟩)⟩, ⟨by (with_reducible repeat (first | apply Kd.R_alloc | apply Kd.R_drewN | apply Kd.R_drew)); exact Kd.R_mono (Kd.R_far (p := ⟨gb160, 1, none⟩) (Kd.R_far (p := ⟨gb160, 0, none⟩) (Kd.R_types HO167.out BK160.out z8_) (fun _ hk => hk.2) (.slice Ao9 t162.length co9)) (fun _ hk => hk.2) (.slice Ao11 t165.length co11)) (fun _ hk => hk.1.1)⟩, ⟨by (with_reducible repeat (first | refine blk_drewN ?_ _ | refine blk_drew ?_ | refine blk_alloc ?_ _)); refine blk_put (cs := #[.slice Ao9 t162.length co9, .slice A0_1 l0_1.length c0_1, .int .i64 a0_2, .int .i64 a0_3]) ?_ 1 _ rfl; (with_reducible repeat (first | refine blk_drewN ?_ _ | refine blk_drew ?_ | refine blk_alloc ?_ _)); refine blk_put (cs := #[.slice A0_0 l0_0.length c0_0, .slice A0_1 l0_1.length c0_1, .int .i64 a0_2, .int .i64 a0_3]) ?_ 0 _ rfl; (with_reducible repeat (first | refine blk_drewN ?_ _ | refine blk_drew ?_ | refine blk_alloc ?_ _)); exact BK160.out⟩, ⟨by (with_reducible repeat (first | refine blk_drewN ?_ _ | refine blk_drew ?_ | refine blk_alloc ?_ _)); refine blk_far ?_ NB161_160.out _; (with_reducible repeat (first | refine blk_drewN ?_ _ | refine blk_drew ?_ | refine blk_alloc ?_ _)); refine blk_far ?_ NB161_160.out _; (with_reducible repeat (first | refine blk_drewN ?_ _ | refine blk_drew ?_ | refine blk_alloc ?_ _)); exact BK161.out⟩, ⟨z159_⟩, ⟨rfl⟩⟩
 case round =>
  clear H'
  obtain ⟨x15_1, x161000_1, u161000, rfl, HA, HK1, HO_161000, HO_161001, BK160, BK161, HB, HLEN⟩ := hrel
  cases gk with
  | zero => exact absurd HA.out (by simp [queue_clone.l0])
  | succ k1 =>
   have H := HA.out
   clear HA
   simp only [queue_clone.l0] at H
   by_cases c15 : x15_1 < (t162.length : Int)
   ·rw [if_pos c15] at H
    have c15b0 : decide (x15_1 < (t162.length : Int)) = true := decide_eq_true c15
    clear c15
    by_cases c16 : 0 ≤ x15_1
    ·rw [if_pos c16] at H
     have c16b0 : decide (0 ≤ x15_1) = true := decide_eq_true c16
     clear c16
     by_cases c17 : x15_1 < (x161000_1.length : Int)
     ·rw [if_pos c17] at H
      have c17b0 : decide (x15_1 < (x161000_1.length : Int)) = true := decide_eq_true c17
      clear c17
      replace H := Option.bind_eq_some_iff.mp H
      obtain ⟨t169, A180, H⟩ := H
      try dsimp only at H
      have A18 := a0_ A180
      clear A180
      obtain ⟨y172, hy172⟩ : ∃ y_ : List (S51), y_ = (x161000_1.set (x15_1 : Int).toNat (⟨(rd_T51 x161000_1 x15_1).f0, (rd_T51 x161000_1 x15_1).f1, t169⟩ : S51)) := ⟨_, rfl⟩
      replace H : (queue_clone.l0 k1 (t162.length : Int) (wrap64 (x15_1 + 1)) y172 t165 a0_2 a0_3) = some (r1, r2, r3, r4) := by first | (rw [hy172]; with_reducible exact H) | (have H2_ := (Option.bind_some _ _).symm.trans H; rw [hy172]; with_reducible exact H2_) | (have H2_ := (Option.bind_some _ _).symm.trans H; with_reducible exact H2_) | with_reducible exact H | (rw [hy172]; exact H) | exact H
      have Ny172 := a0_ hy172
      clear hy172
      have H' := a0_ H
      clear H
      try go_wp2
      have n0_ := a0_ (NM_drew HO_161000.out)
      have n1_ := a0_ (Kd.R_drew HO_161001.out)
      have n2_ := a0_ (blk_drew BK160.out)
      have n3_ := a0_ (blk_drew BK161.out)
      have n4_ := a0_ (below_drew1 HB.out)
      clear HO_161000
      clear HO_161001
      clear BK160
      clear BK161
      clear HB
      have HO_161000 := n0_
      have HO_161001 := n1_
      have BK160 := n2_
      have BK161 := n3_
      have HB := n4_
      clear n0_ n1_ n2_ n3_ n4_
      obtain ⟨Ao21, co21, eo21⟩ := NM_slice HO_161000.out
      (first | subst eo21 | (injection eo21 with f1_ f2_ f3_; have f4_ := f1_.symm; have f5_ := f3_.symm; clear f1_ f2_ f3_; subst f4_; subst f5_))
      have p168 : 0 ≤ (x15_1 : Int) := of_decide_eq_true z10_
      have q168 : x15_1 < (x161000_1.length : Int) := of_decide_eq_true z10_
      have HNX : Aside0 ((wrap64 (x15_1 + 1)).toNat = x15_1.toNat + 1) := ⟨by have h9 := Kd.C_max (NM_reads' HB.out HO_161000.out).2.2; unfold wrap64; omega⟩
      obtain ⟨ad168, A168_2, c168_2, e168, hx168_0, hx168_1, hx168_2, hl168_2, hi168_2⟩ := at_T51 (NM_reads' HB.out HO_161000.out).2.2 x15_1 p168 q168
      cases e168
      obtain ⟨ce168, hce168, hMe168, hcc168⟩ := NM_get HB.out HO_161000.out x15_1 p168 (by first | exact q168 | exact of_decide_eq_true z10_ | (have e_ := (NM_reads' HB.out HO_161000.out).1; omega))
      obtain ⟨ua168_2, uc168_2, rfl, ul168_2, ge168_2⟩ := k51_openF hMe168
      have hv168_2 := hcc168 2 _ rfl
      rw [add_field _ _ 2 z7_] at hv168_2
      replace hv168_2 := Option.some.inj (hv168_2.symm.trans hx168_2)
      injection hv168_2 with hva_ hvn_ hvc_
      rw [hva_] at ge168_2
      rw [hvc_] at ul168_2
      have HL168_2 := a0_ (show Kd.V k120 120 _ w.heap.size _ _ ((rd_T51 x161000_1 x15_1).f2) from Kd.V_mk ul168_2 ge168_2)
      clear hva_ hvn_ hvc_ ge168_2 ul168_2
      clear hcc168 hce168
      have HR168_2 := a0_ hi168_2
      have HC168_2 := a0_ hl168_2
      clear hi168_2 hl168_2
      replace p168 := eq_true p168
      replace q168 := eq_true q168
      refine st_ 13 (S := fun w' => w'.cell? ⟨gb160, 0, none⟩ = some (.slice (some ad168) x161000_1.length co21) ∧ w'.cell? ⟨gb160, 1, none⟩ = some (.slice Ao11 t165.length co11) ∧ w'.cell? ⟨gb160, 2, none⟩ = some (.int .i64 a0_2) ∧ w'.cell? ⟨gb160, 3, none⟩ = some (.int .i64 a0_3) ∧ w'.cell? (ad168.add ((x15_1).toNat * 3)) = some (.int .i64 ((rd_T51 x161000_1 x15_1).f0)) ∧ w'.cell? ⟨(ad168.add ((x15_1).toNat * 3)).block, (ad168.add ((x15_1).toNat * 3)).off + 1, none⟩ = some (.int .i64 ((rd_T51 x161000_1 x15_1).f1)) ∧ w'.cell? ⟨(ad168.add ((x15_1).toNat * 3)).block, (ad168.add ((x15_1).toNat * 3)).off + 2, none⟩ = some (.slice A168_2 ((rd_T51 x161000_1 x15_1).f2).length c168_2)) (ds := [12]) ⟨(blk_cell BK160.out 0).trans rfl, (blk_cell BK160.out 1).trans rfl, (blk_cell BK160.out 2).trans rfl, (blk_cell BK160.out 3).trans rfl, hx168_0, hx168_1, hx168_2⟩ (fun hHeld => ?_); refine with_tabW queue_clone.tab5 queue_clone.bits5 (fun HT_ HW_ => ?_)
      generalize wr.drew = w20 at HO_161000 HO_161001 BK160 BK161 HB HL168_2 HR168_2 hx168_0 hx168_1 hx168_2 hHeld ⊢
      refine pq_ 0 (some 18) rfl rfl ?_
      refine pq_ 2 (some 20) rfl rfl ?_
      refine pq_ 3 (some 21) rfl rfl ?_
      refine pq_ 5 (some 23) rfl rfl ?_
      refine tq_ 1 (some 19) rfl rfl hHeld ?_
      refine tq_ 4 (some 22) rfl rfl hHeld ?_
      refine pq_ 6 (some 24) rfl rfl ?_
      refine pq_ 7 (some 25) rfl rfl ?_
      refine tq_ 8 (some 26) rfl rfl hHeld ?_
      refine oq_ 9 (some 27) rfl rfl (fun K hK => ?_)
      refine goes_ Try.func89 z6_ rfl #[.slice A168_2 ((rd_T51 x161000_1 x15_1).f2).length c168_2] (by rfl) rfl rfl z16_ ?_
      with_reducible refine (api_Write_89.calls _ _ ((rd_T51 x161000_1 x15_1).f2) t169 _ ?side1 ?side2 A18.out).mono ?_
      (case side1 => repeat (first | exact z161_ | (with_reducible refine Kd.C_alloc ?_ _) | (with_reducible refine Kd.C_drewN ?_ _) | (with_reducible refine Kd.C_drew ?_)))
      (case side2 => exact HC168_2.out)
      rintro e w22 ⟨v170, rfl, ho0, hb⟩
      obtain ⟨Av, cv, ev⟩ := Kd.R_slice ho0
      subst ev
      have HS4_ := (hb.cell (World.block_lt_of_cell? _ _ (hHeld.2.2.2.2.1))).trans (hHeld.2.2.2.2.1)
      have HS5_ := (hb.cell (World.block_lt_of_cell? _ _ (hHeld.2.2.2.2.2.1))).trans (hHeld.2.2.2.2.2.1)
      have HS6_ := (hb.cell (World.block_lt_of_cell? _ _ (hHeld.2.2.2.2.2.2))).trans (hHeld.2.2.2.2.2.2)
      refine ⟨_, rfl, ?_⟩
      have n0_ := a0_ (NM_elder' (by (with_reducible repeat (first | apply NM_alloc | apply NM_drewN | apply NM_drew)); exact HO_161000.out) (Kd.R_base ho0) hb)
      have n1_ := a0_ (Kd.R_elder' z162_ (Kd.R_base ho0) hb)
      have n2_ := a0_ (Kd.V_elder' (by (with_reducible repeat (first | apply Kd.V_alloc | apply Kd.V_drewN | apply Kd.V_drew)); exact HL168_2.out) (Kd.R_base ho0) hb)
      have n3_ := a0_ (Kd.R_lower (Kd.R_new' (Kd.R_newM (M := fun k_ => (w.heap.size ≤ k_)) ho0 (below_size z159_) (fun k_ h_ => h_)) (Kd.R_lt z162_)) (below_size z159_))
      have n4_ := a0_ (blk_below z155_ hb)
      have n5_ := a0_ (blk_below z158_ hb)
      have n6_ := a0_ (Kd.C_below z161_ hb)
      have n7_ := a0_ (below_step z159_ hb)
      clear HO_161000
      clear HO_161001
      clear HL168_2
      clear BK160
      clear BK161
      clear HR168_2
      clear HB
      have HO_161000 := n0_
      have HO_161001 := n1_
      have HL168_2 := n2_
      have HO171 := n3_
      have BK160 := n4_
      have BK161 := n5_
      have HR168_2 := n6_
      have HB := n7_
      clear n0_ n1_ n2_ n3_ n4_ n5_ n6_ n7_
      (try clear hb)
      (try clear hb2)
      (try clear hk)
      (try clear hi)
      (try clear ho0)
      have p19 : 0 ≤ (x15_1 : Int) := of_decide_eq_true z10_
      have q19 : (x15_1 : Int) < ((x161000_1.length : Int) : Int) := of_decide_eq_true z10_
      obtain ⟨go19, co19, eo19, gb19, gl19, cl19, HG19⟩ := NM_form HO_161000.out z7_
      (first | cases eo19 | (injection eo19 with ea_ en_ ec_; (first | subst ea_ | (injection ea_ with ea_; subst ea_)); subst ec_; clear en_))
      have GB19 := a0_ gb19
      have GG19 := a0_ HG19
      clear gb19 gl19 HG19
      (first | simp only [add_plain] at hx168_0 | skip)
      (first | simp only [add_plain] at hx168_1 | skip)
      (first | simp only [add_plain] at hx168_2 | skip)
      obtain ⟨ce19, hcl19, hM19, hcc19, hfr19⟩ := NM_elem HB.out HO_161000.out (x15_1 : Int) p19 q19
      obtain ⟨ua19_2, uc19_2, rfl, ul19_2, ge19_2⟩ := k51_openF hM19
      have hx19_0 : World.cell? _ ⟨go19, (x15_1 : Int).toNat * 3, none⟩ = some (.int .i64 ((rd_T51 x161000_1 x15_1).f0)) := hcc19 0 _ rfl
      have hx19_1 : World.cell? _ ⟨go19, (x15_1 : Int).toNat * 3 + 1, none⟩ = some (.int .i64 ((rd_T51 x161000_1 x15_1).f1)) := hcc19 1 _ rfl
      have hx19_2 : World.cell? _ ⟨go19, (x15_1 : Int).toNat * 3 + 2, none⟩ = some (.slice ua19_2 ((rd_T51 x161000_1 x15_1).f2).length uc19_2) := hcc19 2 _ rfl
      have hf19_0 : World.frozen? _ ⟨go19, (x15_1 : Int).toNat * 3, none⟩ = false := hfr19 0
      have hf19_1 : World.frozen? _ ⟨go19, (x15_1 : Int).toNat * 3 + 1, none⟩ = false := hfr19 1
      have hf19_2 : World.frozen? _ ⟨go19, (x15_1 : Int).toNat * 3 + 2, none⟩ = false := hfr19 2
      clear hcl19 hcc19 hfr19 hM19
      replace p19 := eq_true p19
      replace q19 := eq_true q19
      have HX23 := a0_ (show NM w x15_1.toNat _ w.heap.size (fun k_ => (w.heap.size ≤ k_) ∧ some k_ ≠ (.slice Ao11 t165.length co11 : Value).ownBlock ∧ some k_ ≠ ((.slice Av t169.length cv) : Value).ownBlock ∧ k_ ≠ gb160 ∧ k_ ≠ gb161) (.slice (some ⟨go19, 0, none⟩) x161000_1.length co21) x161000_1 from (NM_mono (HO_161000.out) (fun k_ hk => ⟨hk.1.1, ⟨hk.1.2.1, ⟨hk.2, ⟨hk.1.2.2.1, hk.1.2.2.2⟩⟩⟩⟩)))
      replace HX23 := a0_ (show NM w x15_1.toNat _ w.heap.size (fun k_ => (w.heap.size ≤ k_) ∧ some k_ ≠ (.slice Ao11 t165.length co11 : Value).ownBlock ∧ k_ ≠ gb160 ∧ k_ ≠ gb161) (.slice (some ⟨go19, 0, none⟩) x161000_1.length co21) x161000_1 from NM_mono HX23.out (fun k_ hk => ⟨hk.1, ⟨hk.2.1, ⟨hk.2.2.2.1, hk.2.2.2.2⟩⟩⟩))
      obtain ⟨ce23, hcl23, hM23, hcc23, hfr23⟩ := NM_elem HB.out HX23.out (x15_1 : Int) (of_decide_eq_true z10_) (by have h_ : (x15_1 : Int) < ((x161000_1.length : Int) : Int) := of_decide_eq_true z10_; first | exact h_ | (have e_ := (NM_reads' HB.out HO_161000.out).1; omega) | simpa using h_)
      obtain ⟨ua23_2, uc23_2, rfl, ul23_2, ge23_2⟩ := k51_openF hM23
      have HT9 := a0_ (Kd.R_types (Kd.R_types (Kd.R_apart' (HO171.out) (NM_typed HO_161000.out) z8_) BK160.out z8_) BK161.out z8_)
      have HT8 : Aside0 (Kd.R k120 120 w22 w.heap.size (fun k_ => ((w.heap.size ≤ k_) ∧ some k_ ≠ (.slice Ao11 t165.length co11 : Value).ownBlock ∧ k_ ≠ gb160 ∧ k_ ≠ gb161) ∧ k_ ≠ go19) (.slice Av t169.length cv) t169) := ⟨Kd.R_mono HT9.out (fun k_ hk => ⟨⟨hk.1.1.1.1.1, ⟨hk.1.1.1.2, ⟨hk.1.2, hk.2⟩⟩⟩, fun e_ => (hk.1.1.2) (by rw [e_]; rfl)⟩)⟩
      have HP23 := (NM_seg HX23.out (x15_1 : Int) rfl (of_decide_eq_true z10_) (by have h_ : (x15_1 : Int) < ((x161000_1.length : Int) : Int) := of_decide_eq_true z10_; first | exact h_ | (have e_ := (NM_reads' HB.out HO_161000.out).1; omega) | simpa using h_) (seg := [(.slice Av t169.length cv)]) (j := 2) hcl23 hcc23 (show 3 ≤ 3 from z8_) (x' := (⟨(rd_T51 x161000_1 x15_1).f0, (rd_T51 x161000_1 x15_1).f1, t169⟩ : S51)) (k51_mkF _ _ (⟨(rd_T51 x161000_1 x15_1).f0, (rd_T51 x161000_1 x15_1).f1, t169⟩ : S51) (Kd.R_reads' HT8.out).2.1 (Kd.R_F HT8.out)) (fun _ hk => hk)).1
      rw [← Ny172.out] at HP23
      have HQ23 := a0_ HP23
      clear hcl23 hcc23 hfr23 hM23 HP23
      refine hK.out _ _ (by exact ⟨(blk_cell BK160.out 0).trans rfl, (blk_cell BK160.out 1).trans rfl, (blk_cell BK160.out 2).trans rfl, (blk_cell BK160.out 3).trans rfl, HS4_, HS5_, HS6_⟩) (fun hHeld => ?_)
      clear hK K
      refine norm_ (a' := ?_) ?_ ?_
      rotate_left
      ·show Act.put _ (some 27) _ = _
       exact put_
      refine pq_ 10 (some 28) rfl rfl ?_
      refine pq_ 11 (some 29) rfl rfl ?_
      refine lq_ 12 (none) rfl rfl (fun K hK => ?_)
      refine skip_ (w1 := ?_) (by rfl) rfl ?_ ?_
      rotate_left
      ·go_simp
       rfl
      refine hK.out _ _ ?_
      clear hK K
      refine done_ (done_of HT_.out z6_) ?_
      try go_wp2
      go_roundg k1
      case measure => have := HK1.out; omega
      case rel => exact ⟨(wrap64 (x15_1 + 1)), (y172), (.slice (some ⟨go19, 0, none⟩) x161000_1.length co21), z4_, H', ⟨z39_⟩, ⟨by (with_reducible repeat (first | apply NM_alloc | apply NM_drewN | apply NM_drew)); exact (by rw [HNX.out]; exact HQ23.out)⟩, ⟨by (with_reducible repeat (first | apply Kd.R_alloc | apply Kd.R_drewN | apply Kd.R_drew)); exact Kd.R_mono (Kd.R_far (p := ⟨go19, (x15_1 : Int).toNat * 3 + 2, none⟩) (Kd.R_types HO_161001.out GG19.out z8_) (fun _ hk => hk.2) ((.slice Av t169.length cv))) (fun _ hk => hk.1.1)⟩, ⟨by (with_reducible repeat (first | refine blk_drewN ?_ _ | refine blk_drew ?_ | refine blk_alloc ?_ _)); refine blk_far ?_ (by have h_ := NM_away HO_161000.out (fun _ hk => hk.1.2.2.1); intro e_; exact h_ (by rw [e_]; rfl)) _; (with_reducible repeat (first | refine blk_drewN ?_ _ | refine blk_drew ?_ | refine blk_alloc ?_ _)); exact BK160.out⟩, ⟨by (with_reducible repeat (first | refine blk_drewN ?_ _ | refine blk_drew ?_ | refine blk_alloc ?_ _)); refine blk_far ?_ (by have h_ := NM_away HO_161000.out (fun _ hk => hk.1.2.2.2); intro e_; exact h_ (by rw [e_]; rfl)) _; (with_reducible repeat (first | refine blk_drewN ?_ _ | refine blk_drew ?_ | refine blk_alloc ?_ _)); exact BK161.out⟩, ⟨by repeat (first | (with_reducible first | exact HB.out | apply below_alloc | apply pw_below_drewN | apply below_drew1 | refine below_set ?_ GB19.out | refine below_set ?_ GE160.out | refine below_set ?_ GE161.out) | exact HB.out)⟩, ⟨by rw [Ny172.out, List.length_set]; exact HLEN.out⟩⟩
     ·rw [if_neg c17] at H
      exact absurd H (by simp)
    ·rw [if_neg c16] at H
     exact absurd H (by simp)
   ·rw [if_neg c15] at H
    have c15b0 : decide (x15_1 < (t162.length : Int)) = false := decide_eq_false c15
    clear c15
    simp only [Option.some.injEq, Prod.mk.injEq] at H
    obtain ⟨rfl, rfl, rfl, rfl⟩ := H
    have hnb24 := NB160_161.out
    have hnc24 := NB161_160.out
    have hcz25_0 : wr.cell? ⟨gb160, 0, none⟩ = some (u161000) := (blk_cell BK160.out 0).trans rfl
    have hcz25_1 : wr.cell? ⟨gb160, 1, none⟩ = some (.slice Ao11 t165.length co11) := (blk_cell BK160.out 1).trans rfl
    have hcz25_2 : wr.cell? ⟨gb160, 2, none⟩ = some (.int .i64 a0_2) := (blk_cell BK160.out 2).trans rfl
    have hcz25_3 : wr.cell? ⟨gb160, 3, none⟩ = some (.int .i64 a0_3) := (blk_cell BK160.out 3).trans rfl
    obtain ⟨hfz25_0, hfz25_1, hfz25_2, hfz25_3⟩ := bf4_ BK160.out
    obtain ⟨Ao26, co26, eo26⟩ := NM_slice HO_161000.out
    subst eo26
    have hcz27_0 : wr.cell? ⟨gb161, 0, none⟩ = some (.slice none 0 0) := (blk_cell BK161.out 0).trans rfl
    have hcz27_1 : wr.cell? ⟨gb161, 1, none⟩ = some (.slice none 0 0) := (blk_cell BK161.out 1).trans rfl
    have hcz27_2 : wr.cell? ⟨gb161, 2, none⟩ = some (.int .i64 0) := (blk_cell BK161.out 2).trans rfl
    have hcz27_3 : wr.cell? ⟨gb161, 3, none⟩ = some (.int .i64 0) := (blk_cell BK161.out 3).trans rfl
    obtain ⟨hfz27_0, hfz27_1, hfz27_2, hfz27_3⟩ := bf4_ BK161.out
    go_wp2
    refine bodyPost_ret (results_cell_row rfl _ _ gb161 68 #[.slice Ao26 x161000_1.length co26, .slice Ao11 t165.length co11, .int .i64 a0_2, .int .i64 a0_3] (0, 0) _ rfl (by (with_reducible repeat (first | refine blk_drewN ?_ _ | refine blk_drew ?_ | refine blk_alloc ?_ _)); refine blk_put (cs := #[.slice Ao26 x161000_1.length co26, .slice Ao11 t165.length co11, .int .i64 a0_2, .int .i64 0]) ?_ 3 _ rfl; (with_reducible repeat (first | refine blk_drewN ?_ _ | refine blk_drew ?_ | refine blk_alloc ?_ _)); refine blk_put (cs := #[.slice Ao26 x161000_1.length co26, .slice Ao11 t165.length co11, .int .i64 0, .int .i64 0]) ?_ 2 _ rfl; (with_reducible repeat (first | refine blk_drewN ?_ _ | refine blk_drew ?_ | refine blk_alloc ?_ _)); refine blk_put (cs := #[.slice Ao26 x161000_1.length co26, .slice none 0 0, .int .i64 0, .int .i64 0]) ?_ 1 _ rfl; (with_reducible repeat (first | refine blk_drewN ?_ _ | refine blk_drew ?_ | refine blk_alloc ?_ _)); refine blk_put (cs := #[.slice none 0 0, .slice none 0 0, .int .i64 0, .int .i64 0]) ?_ 0 _ rfl; (with_reducible repeat (first | refine blk_drewN ?_ _ | refine blk_drew ?_ | refine blk_alloc ?_ _)); exact BK161.out) Try.underlying68 rfl z6_) rfl ?_
    exact ⟨_, _, z2_, by (with_reducible repeat (first | apply Kd.N_alloc | apply Kd.N_drewN | apply Kd.N_drew)); exact Kd.N_mono (Kd.N_far (p := ⟨gb161, 3, none⟩) (Kd.N_far (p := ⟨gb161, 2, none⟩) (Kd.N_far (p := ⟨gb161, 1, none⟩) (Kd.N_far (p := ⟨gb161, 0, none⟩) (Kd.N_mono (NM_all HO_161000.out (by have h9 := HLEN.out; have h8 := of_decide_eq_false c15b0; omega)) (fun k_ hk => (⟨hk, hk.2.2.2⟩ : _ ∧ k_ ≠ gb161))) (fun _ hk => hk.2) (.slice Ao26 x161000_1.length co26)) (fun _ hk => hk.2) (.slice Ao11 t165.length co11)) (fun _ hk => hk.2) (.int .i64 a0_2)) (fun _ hk => hk.2) (.int .i64 a0_3)) (fun _ hk => ⟨hk.1.1, hk.1.2.1⟩), by (with_reducible repeat (first | apply Kd.R_alloc | apply Kd.R_drewN | apply Kd.R_drew)); exact Kd.R_mono (Kd.R_far (p := ⟨gb161, 3, none⟩) (Kd.R_far (p := ⟨gb161, 2, none⟩) (Kd.R_far (p := ⟨gb161, 1, none⟩) (Kd.R_far (p := ⟨gb161, 0, none⟩) (Kd.R_types HO_161001.out BK161.out z8_) (fun _ hk => hk.2) (.slice Ao26 x161000_1.length co26)) (fun _ hk => hk.2) (.slice Ao11 t165.length co11)) (fun _ hk => hk.2) (.int .i64 a0_2)) (fun _ hk => hk.2) (.int .i64 a0_3)) (fun _ hk => hk.1), z159_⟩
end Go.Proofs.Ytecfndblgefhdaa.R
