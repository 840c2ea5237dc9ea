import Derived.Test.YtgfmdfgibkkfaaaKaPx0
import Derived.Test.YtgfmdfgibkkfaaaKaEnds
set_option linter.unusedVariables false
set_option linter.unusedSimpArgs false
namespace Go.Proofs.Ytgfmdfgibkkfaaa.P
open Go.RowKit Go.Proofs.YtgfmdfgibkkfaaaW.PrintWords Go.Proofs.YtgfmdfgibkkfaaaW.PrintLast Go.Proofs.YtgfmdfgibkkfaaaW.PrintMore
attribute [local go_sem] max2_int min2_int max_two min_two max_three min_three max_four min_four
theorem infoP : (Try.prog.info? 65).map (fun i => (i.zero, i.size, i.bytes)) = some (some (.agg #[.int .i64 0, .string ⟨#[]⟩, .bool false]), 3, 32) := by kernel_rfl
set_option maxHeartbeats 4000000 in
set_option maxRecDepth 100000 in
theorem ends_send.callsF (b g : Nat) (L : LS) (p : S65) (f : Nat → Nat) (w : World) (h : EndsF b w g L f) (hb : b ≤ w.heap.size) :
    Calls Try.prog 27 #[.pointer (some ⟨g, 0, none⟩), .agg #[.int .i64 p.f0, .string p.f1, .bool p.f2]] w fun e w' => e = .returned (.tuple #[]) ∧ (∃ f', EndsF b w' g (L.send p) f' ∧ Kept9 w w' f f') ∧ Below b w w' := by
  obtain ⟨v0, v1, vn, q0, q1, r0, r1, h⟩ := h
  obtain ⟨An, cn, hvn, hnc, hC⟩ := Kd.R_reads h.hn
  subst hvn
  have HL := Aside0.mk h
  have HBB := Aside0.mk hb
  clear hnc hC h hb
  have HE := Aside0.mk (HL.out.alloc (.cells #[.int .i64 p.f0, .string p.f1, .bool p.f2] 65 (0, 0)))
  have BP := Aside0.mk (blk_new w (.cells #[.int .i64 p.f0, .string p.f1, .bool p.f2] 65 (0, 0)))
  have HB0 := Aside0.mk (below_alloc (Below.refl w.heap.size w) (.cells #[.int .i64 p.f0, .string p.f1, .bool p.f2] 65 (0, 0)))
  have HB := Aside0.mk (HB0.out.mono HBB.out)
  have x10 := HE.out.cell 10
  have y1 := blk_cell BP.out 1
  simp only [cellsE] at x10
  go_enter Try.func27, Try.ntmps27
  go_upto_region 1 with (fail)
  have same : ∀ W, Below w.heap.size w W → EV b W g L f v0 v1 (.slice An L.net.length cn) q0 q1 r0 r1 → ¬ (p.f1 ≠ (⟨#[]⟩ : ByteArray) ∧ L.net.length < 200) → ((∃ f', EndsF b W g (L.send p) f' ∧ Kept9 w W f f') ∧ Below b w W) := fun W hb he hn => ⟨⟨f, ⟨v0, v1, _, q0, q1, r0, r1, by unfold LS.send; rw [if_neg hn]; exact he⟩, fun k hk h9 => ⟨h9, hb.block k hk⟩⟩, hb.mono HBB.out⟩
  have SAME := Aside0.mk same
  clear same
  by_cases hs : p.f1.toList = ([] : List UInt8)
  · have c1 : p.f1.toList.isEmpty = true := by rw [hs]; rfl
    go_wp2
    refine bodyPost_end (results_none rfl _ _ _) rfl ?_
    exact ⟨rfl, SAME.out _ HB0.out HE.out (fun hx => hx.1 (by apply ByteArray.ext; apply Array.ext'; rw [ByteArray.toList_eq] at hs; exact hs))⟩
  · have c1 : p.f1.toList.isEmpty = false := by cases hq : p.f1.toList with
      | nil => exact absurd hq hs
      | cons => rfl
    by_cases hn : L.net.length < 200
    · have c2 : decide ((L.net.length : Int) < 200) = true := decide_eq_true (by omega)
      go_upto_region 2 with (fail)
      replace HE := Aside0.mk HE.out.drew
      replace BP := Aside0.mk (blk_drew BP.out)
      replace HB0 := Aside0.mk (below_drew1 HB0.out)
      replace HB := Aside0.mk (HB0.out.mono HBB.out)
      have HSZ := Aside0.mk (Nat.le_trans HBB.out HB0.out.size)
      clear SAME y1 x10
      generalize w.alloc (.cells #[.int .i64 p.f0, .string p.f1, .bool p.f2] 65 (0, 0)) = Wb at HE BP HB0 HB HSZ ⊢
      obtain ⟨gp, hgp⟩ : ∃ gp, gp = w.heap.size := ⟨_, rfl⟩
      rw [← hgp] at BP HB0 HBB ⊢
      have HW := Aside0.mk hgp
      clear hgp
      refine start_ (n := 11) (S := fun w' => w'.cell? ⟨g, 10, none⟩ = some (.slice An L.net.length cn) ∧ w'.cell? ⟨gp, 0, none⟩ = some (.int .i64 p.f0) ∧ w'.cell? ⟨gp, 1, none⟩ = some (.string p.f1) ∧ w'.cell? ⟨gp, 2, none⟩ = some (.bool p.f2)) (ds := [7, 10]) #[false, false, false, false, false, false, false, false, false, false, false] (by kernel_rfl) rfl rfl ⟨(HE.out.cell 10).trans rfl, (blk_cell BP.out 0).trans rfl, (blk_cell BP.out 1).trans rfl, (blk_cell BP.out 2).trans rfl⟩ (fun hHeld => ?_)
      generalize World.drew Wb = V at HE BP HB0 HB HSZ hHeld ⊢
      refine pure_ (i := 0) (N := some 15) (v := ?_) (a' := ?_) #[true, false, false, false, false, false, false, false, false, false, false] rfl rfl (by kernel_rfl) (fun _ _ _ h => h) (Or.inl ⟨by rfl, ?_⟩) ?_ ?_
      rotate_left
      · intro w'
        go_simp
        with_reducible rfl
      rotate_left
      · exact put_
      refine pure_ (i := 1) (N := some 16) (v := ?_) (a' := ?_) #[true, true, false, false, false, false, false, false, false, false, false] rfl rfl (by kernel_rfl) (fun _ _ _ h => h) (Or.inl ⟨by rfl, ?_⟩) ?_ ?_
      rotate_left
      · intro w'
        go_simp
        with_reducible rfl
      rotate_left
      · exact put_
      refine pure_ (i := 2) (N := some 17) (v := ?_) (a' := ?_) #[true, true, true, false, false, false, false, false, false, false, false] rfl rfl (by kernel_rfl) (fun _ _ _ h => h) (Or.inl ⟨by rfl, ?_⟩) ?_ ?_
      rotate_left
      · intro w'
        go_simp
        with_reducible rfl
      rotate_left
      · exact put_
      refine pure_ (i := 3) (N := some 18) (v := ?_) (a' := ?_) #[true, true, true, true, false, false, false, false, false, false, false] rfl rfl (by kernel_rfl) (fun _ _ _ h => h) (Or.inl ⟨by rfl, ?_⟩) ?_ ?_
      rotate_left
      · intro w'
        go_simp
        with_reducible rfl
      rotate_left
      · exact put_
      refine take_ (i := 4) (N := some 19) (v := ?_) (a' := ?_) #[true, true, true, true, true, false, false, false, false, false, false] rfl rfl (by kernel_rfl) (fun _ _ _ h => h) (Or.inl ⟨by rfl, ?_⟩) hHeld ?_ ?_
      rotate_left
      · rintro w' ⟨s0, s1, s2, s3⟩
        go_simp
        with_reducible rfl
      rotate_left
      · exact put_
      refine take_ (i := 5) (N := some 20) (v := ?_) (a' := ?_) #[true, true, true, true, true, true, false, false, false, false, false] rfl rfl (by kernel_rfl) (fun _ _ _ h => h) (Or.inl ⟨by rfl, ?_⟩) hHeld ?_ ?_
      rotate_left
      · rintro w' ⟨s0, s1, s2, s3⟩
        go_simp
        with_reducible rfl
      rotate_left
      · exact put_
      refine one_ (i := 6) (N := some 21) #[true, true, true, true, true, true, true, false, false, false, false] rfl rfl (by kernel_rfl) (by decide) (fun K hK => ?_)
      refine value_ (w1 := ?_) (v := ?_) (by rfl) rfl ?_ ?_
      rotate_left 2
      · go_simp
        constructor
        · rfl
        · rfl
      refine hK.out _ _ ⟨(HE.out.alloc _).cell 10 |>.trans rfl, (blk_cell (blk_alloc BP.out _) 0).trans rfl, (blk_cell (blk_alloc BP.out _) 1).trans rfl, (blk_cell (blk_alloc BP.out _) 2).trans rfl⟩ (fun hHeld => ?_)
      clear hK K
      refine norm_ (a' := ?_) ?_ ?_
      rotate_left
      · show Act.put _ (some 21) _ = _
        exact put_
      refine last_ (i := 7) (N := some 22) #[true, true, true, true, true, true, true, true, false, false, false] rfl rfl (by kernel_rfl) (by decide) (fun K hK => ?_)
      refine Kd.R_append_step k65 (w0 := w) b (by rfl) (.tmp 19) (.tmp 21) 58 65 (.agg #[.int .i64 0, .string ⟨#[]⟩, .bool false]) 32 rfl Try.underlying58 infoP rfl (by decide) (by omega) (.slice An L.net.length cn) L.net p [.int .i64 p.f0, .string p.f1, .bool p.f2] (fun k => f k = 2 ∨ V.heap.size ≤ k) (fun _ => False) rfl rfl ?aP (fun _ hk => hk.elim) ?aF ?aO ?aB ?aS ?aL ?_
      (case aP => exact k65_mkM _ _ _ p)
      (case aB => exact HB.out)
      (case aF => exact (fun _ hk => .inr hk))
      (case aO => exact Kd.R_mono HE.out.hn (fun _ hk => .inl hk))
      (case aS => exact HSZ.out)
      (case aL => omega)
      intro vn' w2 ho hbb hg hat
      obtain ⟨A2, c2n, rfl⟩ := Kd.R_slice ho
      have HO := Aside0.mk ho
      have HB2 := Aside0.mk hbb
      have HG := Aside0.mk hg
      clear ho hbb hg hat
      refine hK.out _ _ ?_
      clear hK K
      refine norm_ (a' := ?_) ?_ ?_
      rotate_left
      · show Act.put _ (some 22) _ = _
        exact put_
      refine pure_ (i := 8) (N := some 23) (v := ?_) (a' := ?_) #[true, true, true, true, true, true, true, true, true, false, false] rfl rfl (by kernel_rfl) (fun _ _ _ h => h) (Or.inl ⟨by rfl, ?_⟩) ?_ ?_
      rotate_left
      · intro w'
        go_simp
        with_reducible rfl
      rotate_left
      · exact put_
      refine pure_ (i := 9) (N := some 24) (v := ?_) (a' := ?_) #[true, true, true, true, true, true, true, true, true, true, false] rfl rfl (by kernel_rfl) (fun _ _ _ h => h) (Or.inl ⟨by rfl, ?_⟩) ?_ ?_
      rotate_left
      · intro w'
        go_simp
        with_reducible rfl
      rotate_left
      · exact put_
      refine last_ (i := 10) (N := none) #[true, true, true, true, true, true, true, true, true, true, true] rfl rfl (by kernel_rfl) (by decide) (fun K hK => ?_)
      have hne : f g ≠ 2 := by rw [HE.out.own]; decide
      have hbk := blk_grown HE.out.blk HG.out (fun e => hne (HE.out.hn.1 g e.symm))
      have hct : w2.cell? ⟨g, 10, none⟩ = some (.slice An L.net.length cn) := (blk_cell hbk 10).trans rfl
      have hft : w2.frozen? ⟨g, 10, none⟩ = false := blk_frozen hbk 10
      clear hne hbk
      refine skip_ (w1 := ?_) (by rfl) rfl ?_ ?_
      rotate_left
      · go_simp
        rfl
      refine hK.out _ _ ?_
      clear hK K
      refine done_ (by kernel_rfl) ?_
      refine bodyPost_end (results_none rfl _ _ _) rfl ?_
      obtain ⟨f', hff, hf'⟩ := HE.out.setNet HG.out HO.out
      have hkeep : Kept9 w (w2.setCell ⟨g, 10, none⟩ (.slice A2 (L.net ++ [p]).length c2n)) f f' := fun k hk h9 => by
        have hk2 : k < V.heap.size := Nat.lt_of_lt_of_le hk HB0.out.size
        refine ⟨(hff k hk2).trans h9, ?_⟩
        have h1 : k ≠ g := fun e => by rw [e, HE.out.own] at h9; cases h9
        have h2 := HG.out.block k hk2 (fun e => by have h5 : f k = 2 := HE.out.hn.1 k e.symm; omega)
        exact (Below.heap_setCell w2 ⟨g, 10, none⟩ _ k h1).trans (h2.trans (HB0.out.block k (by rw [HW.out]; exact hk)))
      have hx : p.f1 ≠ (⟨#[]⟩ : ByteArray) ∧ L.net.length < 200 := ⟨fun e => hs (by rw [e, ByteArray.toList_eq]), hn⟩
      refine ⟨rfl, ?_, HB2.out.setCell HE.out.low _⟩
      unfold LS.send
      rw [if_pos hx]
      rw [show (L.net ++ [p]).length = L.net.length + 1 from by simp] at hf' hkeep
      exact ⟨f', ⟨v0, v1, _, q0, q1, r0, r1, hf'⟩, hkeep⟩
    · have c2 : decide ((L.net.length : Int) < 200) = false := decide_eq_false (by omega)
      go_wp2
      refine bodyPost_end (results_none rfl _ _ _) rfl ?_
      exact ⟨rfl, SAME.out _ HB0.out HE.out (fun hx => hn hx.2)⟩
theorem ends_send.calls (b g : Nat) (L : LS) (p : S65) (w : World) (h : Ends b w g L) (hb : b ≤ w.heap.size) :
    Calls Try.prog 27 #[.pointer (some ⟨g, 0, none⟩), .agg #[.int .i64 p.f0, .string p.f1, .bool p.f2]] w fun e w' => e = .returned (.tuple #[]) ∧ Ends b w' g (L.send p) ∧ Below b w w' := by
  obtain ⟨f, h⟩ := h
  exact (ends_send.callsF b g L p f w h hb).mono fun e w' ⟨he, ⟨f', hf', _⟩, hb'⟩ => ⟨he, ⟨f', hf'⟩, hb'⟩
set_option maxHeartbeats 4000000 in
set_option maxRecDepth 100000 in
theorem ends_gone.calls (b g i : Nat) (L : LS) (w : World) (h : Ends b w g L) (hb : b ≤ w.heap.size) (hi : i < L.net.length) (hln : L.net.length ≤ 1000) :
    Calls Try.prog 29 #[.pointer (some ⟨g, 0, none⟩), .int .i64 (i : Int)] w fun e w' => e = .returned (.agg #[.int .i64 (rd_T65 L.net i).f0, .string (rd_T65 L.net i).f1, .bool (rd_T65 L.net i).f2]) ∧ Ends b w' g { L with net := L.net.take i ++ L.net.drop (i + 1) } ∧ Below b w w' := by
  obtain ⟨f, v0, v1, vn, q0, q1, r0, r1, h⟩ := h
  obtain ⟨An, cn, hvn, hnc, hC⟩ := Kd.R_reads h.hn
  subst hvn
  have hmax : L.net.length ≤ 9223372036854775807 := hC.2.1
  obtain ⟨ad, hA, z0, z1, z2⟩ := at_T65 hC (i : Int) (by omega) (by omega)
  subst hA
  rw [Int.toNat_natCast] at z0 z1 z2
  have HL := Aside0.mk h
  have HBB := Aside0.mk hb
  have HLN := Aside0.mk hln
  clear hC h hb hln
  have d1 : (0 : Int) ≤ (i : Int) := by omega
  have d2 : (i : Int) < (L.net.length : Int) := by omega
  have HB1 := Aside0.mk (below_alloc (Below.refl w.heap.size w) (.cells #[.int .i64 0, .string ⟨#[]⟩, .bool false] 65 (0, 0)))
  have HE := Aside0.mk (HL.out.fresh HB1.out 9)
  have HF9 : Aside0 (tagf f w.heap.size 9 w.heap.size = 9) := ⟨by unfold tagf; rw [if_pos (Nat.le_refl _)]⟩
  generalize tagf f w.heap.size 9 = f at HE HF9
  have BR := Aside0.mk (blk_new w (.cells #[.int .i64 0, .string ⟨#[]⟩, .bool false] 65 (0, 0)))
  replace z0 := (HB1.out.cell (World.block_lt_of_cell? w _ z0)).trans z0
  replace z1 := (HB1.out.cell (World.block_lt_of_cell? w _ z1)).trans z1
  replace z2 := (HB1.out.cell (World.block_lt_of_cell? w _ z2)).trans z2
  generalize rd_T65 L.net i = p at z0 z1 z2 ⊢
  go_enter Try.func29, Try.ntmps29
  go_upto_region 1 with (fail)
  generalize w.alloc (.cells #[.int .i64 0, .string ⟨#[]⟩, .bool false] 65 (0, 0)) = W1 at HB1 HE BR z0 z1 z2 ⊢
  have HBw := Aside0.mk (HB1.out.mono HBB.out)
  have HSZ1 := Aside0.mk (Nat.le_trans HBB.out HB1.out.size)
  have HLT1 := Aside0.mk (blk_lt BR.out)
  have HGR := Aside0.mk HL.out.lt
  generalize w.heap.size = gr at HBB HB1 BR HLT1 HGR HF9 ⊢
  have e0 : (i ≤ cn) = True := eq_true (by omega)
  have e1 : (0 ≤ wrap64 ((i : Int) + 1)) = True := eq_true (by unfold wrap64; omega)
  have e2 : (wrap64 ((i : Int) + 1) ≤ (L.net.length : Int)) = True := eq_true (by unfold wrap64; omega)
  have e3 : (wrap64 ((i : Int) + 1)).toNat = i + 1 := by unfold wrap64; omega
  have x10 := HE.out.cell 10
  simp only [cellsE] at x10
  go_upto_region 3 with (fail)
  have hbp := below_alloc (Below.refl W1.heap.size W1) (.cells #[.int .i64 p.f0, .string p.f1, .bool p.f2] 65 (0, 0))
  have BP := Aside0.mk (blk_drew (blk_new W1 (.cells #[.int .i64 p.f0, .string p.f1, .bool p.f2] 65 (0, 0))))
  replace HE := Aside0.mk (HE.out.below hbp).drew
  replace BR := Aside0.mk (blk_drew (blk_below BR.out hbp))
  have HB := Aside0.mk (HBw.out.trans (hbp.mono HSZ1.out)).drew
  have HSZ := Aside0.mk (show b ≤ (World.drew (W1.alloc (.cells #[.int .i64 p.f0, .string p.f1, .bool p.f2] 65 (0, 0)))).heap.size from Nat.le_trans HSZ1.out hbp.size)
  have HLT := Aside0.mk (show gr < (World.drew (W1.alloc (.cells #[.int .i64 p.f0, .string p.f1, .bool p.f2] 65 (0, 0)))).heap.size from Nat.lt_of_lt_of_le HLT1.out hbp.size)
  clear hbp x10 z0 z1 z2
  generalize W1.alloc (.cells #[.int .i64 p.f0, .string p.f1, .bool p.f2] 65 (0, 0)) = W2 at HE BP BR HB HSZ HLT ⊢
  have HLT2 := Aside0.mk (blk_lt BP.out)
  generalize W1.heap.size = gp at BP HLT2 HLT1 ⊢
  refine start_ (n := 20) (S := fun w' => w'.cell? ⟨g, 10, none⟩ = some (.slice (some ad) L.net.length cn)) (ds := [16, 19]) #[false, false, false, false, false, false, false, false, false, false, false, false, false, false, false, false, false, false, false, false] (by kernel_rfl) rfl rfl ((HE.out.cell 10).trans rfl) (fun hHeld => ?_)
  generalize World.drew W2 = V at HE BP BR HB HSZ HLT HLT2 hHeld ⊢
  refine pure_ (i := 0) (N := some 14) (v := ?_) (a' := ?_) #[true, false, false, false, false, false, false, false, false, false, false, false, false, false, false, false, false, false, false, false] rfl rfl (by kernel_rfl) (fun _ _ _ h => h) (Or.inl ⟨by rfl, ?_⟩) ?_ ?_
  rotate_left
  · intro w'
    go_simp
    with_reducible rfl
  rotate_left
  · exact put_
  refine pure_ (i := 1) (N := some 15) (v := ?_) (a' := ?_) #[true, true, false, false, false, false, false, false, false, false, false, false, false, false, false, false, false, false, false, false] rfl rfl (by kernel_rfl) (fun _ _ _ h => h) (Or.inl ⟨by rfl, ?_⟩) ?_ ?_
  rotate_left
  · intro w'
    go_simp
    with_reducible rfl
  rotate_left
  · exact put_
  refine pure_ (i := 2) (N := some 16) (v := ?_) (a' := ?_) #[true, true, true, false, false, false, false, false, false, false, false, false, false, false, false, false, false, false, false, false] rfl rfl (by kernel_rfl) (fun _ _ _ h => h) (Or.inl ⟨by rfl, ?_⟩) ?_ ?_
  rotate_left
  · intro w'
    go_simp
    with_reducible rfl
  rotate_left
  · exact put_
  refine pure_ (i := 3) (N := some 17) (v := ?_) (a' := ?_) #[true, true, true, true, false, false, false, false, false, false, false, false, false, false, false, false, false, false, false, false] rfl rfl (by kernel_rfl) (fun _ _ _ h => h) (Or.inl ⟨by rfl, ?_⟩) ?_ ?_
  rotate_left
  · intro w'
    go_simp
    with_reducible rfl
  rotate_left
  · exact put_
  refine pure_ (i := 4) (N := some 18) (v := ?_) (a' := ?_) #[true, true, true, true, true, false, false, false, false, false, false, false, false, false, false, false, false, false, false, false] rfl rfl (by kernel_rfl) (fun _ _ _ h => h) (Or.inl ⟨by rfl, ?_⟩) ?_ ?_
  rotate_left
  · intro w'
    go_simp
    with_reducible rfl
  rotate_left
  · exact put_
  refine pure_ (i := 6) (N := some 20) (v := ?_) (a' := ?_) #[true, true, true, true, true, false, true, false, false, false, false, false, false, false, false, false, false, false, false, false] rfl rfl (by kernel_rfl) (fun _ _ _ h => h) (Or.inl ⟨by rfl, ?_⟩) ?_ ?_
  rotate_left
  · intro w'
    go_simp
    with_reducible rfl
  rotate_left
  · exact put_
  refine pure_ (i := 9) (N := some 23) (v := ?_) (a' := ?_) #[true, true, true, true, true, false, true, false, false, true, false, false, false, false, false, false, false, false, false, false] rfl rfl (by kernel_rfl) (fun _ _ _ h => h) (Or.inl ⟨by rfl, ?_⟩) ?_ ?_
  rotate_left
  · intro w'
    go_simp
    with_reducible rfl
  rotate_left
  · exact put_
  refine pure_ (i := 10) (N := some 24) (v := ?_) (a' := ?_) #[true, true, true, true, true, false, true, false, false, true, true, false, false, false, false, false, false, false, false, false] rfl rfl (by kernel_rfl) (fun _ _ _ h => h) (Or.inl ⟨by rfl, ?_⟩) ?_ ?_
  rotate_left
  · intro w'
    go_simp
    with_reducible rfl
  rotate_left
  · exact put_
  refine pure_ (i := 11) (N := some 25) (v := ?_) (a' := ?_) #[true, true, true, true, true, false, true, false, false, true, true, true, false, false, false, false, false, false, false, false] rfl rfl (by kernel_rfl) (fun _ _ _ h => h) (Or.inl ⟨by rfl, ?_⟩) ?_ ?_
  rotate_left
  · intro w'
    go_simp
    with_reducible rfl
  rotate_left
  · exact put_
  refine pure_ (i := 13) (N := some 27) (v := ?_) (a' := ?_) #[true, true, true, true, true, false, true, false, false, true, true, true, false, true, false, false, false, false, false, false] rfl rfl (by kernel_rfl) (fun _ _ _ h => h) (Or.inl ⟨by rfl, ?_⟩) ?_ ?_
  rotate_left
  · intro w'
    go_simp
    with_reducible rfl
  rotate_left
  · exact put_
  refine pure_ (i := 14) (N := some 28) (v := ?_) (a' := ?_) #[true, true, true, true, true, false, true, false, false, true, true, true, false, true, true, false, false, false, false, false] rfl rfl (by kernel_rfl) (fun _ _ _ h => h) (Or.inl ⟨by rfl, ?_⟩) ?_ ?_
  rotate_left
  · intro w'
    go_simp
    with_reducible rfl
  rotate_left
  · exact put_
  refine take_ (i := 5) (N := some 19) (v := ?_) (a' := ?_) #[true, true, true, true, true, true, true, false, false, true, true, true, false, true, true, false, false, false, false, false] rfl rfl (by kernel_rfl) (fun _ _ _ h => h) (Or.inl ⟨by rfl, ?_⟩) hHeld ?_ ?_
  rotate_left
  · intro w' s0
    go_simp
    with_reducible rfl
  rotate_left
  · exact put_
  refine pure_ (i := 7) (N := some 21) (v := ?_) (a' := ?_) #[true, true, true, true, true, true, true, true, false, true, true, true, false, true, true, false, false, false, false, false] rfl rfl (by kernel_rfl) (fun _ _ _ h => h) (Or.inl ⟨by rfl, ?_⟩) ?_ ?_
  rotate_left
  · intro w'
    go_simp
    with_reducible rfl
  rotate_left
  · exact put_
  refine take_ (i := 12) (N := some 26) (v := ?_) (a' := ?_) #[true, true, true, true, true, true, true, true, false, true, true, true, true, true, true, false, false, false, false, false] rfl rfl (by kernel_rfl) (fun _ _ _ h => h) (Or.inl ⟨by rfl, ?_⟩) hHeld ?_ ?_
  rotate_left
  · intro w' s0
    go_simp
    with_reducible rfl
  rotate_left
  · exact put_
  refine pure_ (i := 15) (N := some 29) (v := ?_) (a' := ?_) #[true, true, true, true, true, true, true, true, false, true, true, true, true, true, true, true, false, false, false, false] rfl rfl (by kernel_rfl) (fun _ _ _ h => h) (Or.inl ⟨by rfl, ?_⟩) ?_ ?_
  rotate_left
  · intro w'
    go_simp
    with_reducible rfl
  rotate_left
  · exact put_
  refine one_ (i := 8) (N := some 22) #[true, true, true, true, true, true, true, true, true, true, true, true, true, true, true, true, false, false, false, false] rfl rfl (by kernel_rfl) (by decide) (fun K hK => ?_)
  refine Kd.R_append_rows_step k65 (Rr := k65.K V) (w0 := w) b (by rfl) (.tmp 15) (.tmp 21) 58 65 (.agg #[.int .i64 0, .string ⟨#[]⟩, .bool false]) 32 rfl Try.underlying58 infoP rfl (by decide) (by omega) (.slice none 0 0) [] (L.net.take i) (some ad) i cn (fun k => V.heap.size ≤ k) (fun _ => False) rfl ?hx (Kd.R_nil _ _ _ _ _) ?aR ?aK (fun _ hk => hk.elim) (fun _ hk => hk) ?aB ?aS ?aL ?_
  (case hx => rfl)
  (case aR => have h := Kd.C_take (Kd.R_reads' HE.out.hn).2.2 (m := i) (by omega); rwa [List.length_take, Nat.min_eq_left (by omega)] at h)
  (case aK => intro x cs hk; obtain rfl := k65_open hk; exact k65_mkM _ _ _ x)
  (case aB => exact HB.out)
  (case aS => exact HSZ.out)
  (case aL => have := HLN.out; simp only [List.length_nil]; omega)
  intro vm w2 ho hbb hg hat
  have hbv : Below V.heap.size V w2 := ⟨hg.1, hg.2, hg.3, hg.4, fun k hk => hg.5 k hk (by simp [Value.ownBlock])⟩
  rw [List.nil_append] at ho
  have HE2 := Aside0.mk (HE.out.below hbv)
  have BP2 := Aside0.mk (blk_below BP.out hbv)
  have BR2 := Aside0.mk (blk_below BR.out hbv)
  have HO2 := Aside0.mk ho
  have HB2 := Aside0.mk hbb
  have HSZ2 := Aside0.mk (Nat.le_trans HSZ.out hbv.size)
  have HV2 := Aside0.mk hbv
  clear ho hbb hg hat hbv
  refine hK.out _ _ ((HE2.out.cell 10).trans rfl) (fun hHeld => ?_)
  clear hK K
  refine norm_ (a' := ?_) ?_ ?_
  rotate_left
  · show Act.put _ (some 22) _ = _
    exact put_
  refine last_ (i := 16) (N := some 30) #[true, true, true, true, true, true, true, true, true, true, true, true, true, true, true, true, true, false, false, false] rfl rfl (by kernel_rfl) (by decide) (fun K hK => ?_)
  refine Kd.R_append_rows_step k65 (Rr := k65.K w2) (w0 := w) b (by rfl) (.tmp 22) (.tmp 29) 58 65 (.agg #[.int .i64 0, .string ⟨#[]⟩, .bool false]) 32 rfl Try.underlying58 infoP rfl (by decide) (by omega) vm (L.net.take i) (L.net.drop (i + 1)) _ _ _ (fun k => V.heap.size ≤ k) (fun _ => False) rfl rfl HO2.out ?aR ?aK (fun _ hk => hk.elim) (fun _ hk => Nat.le_trans HV2.out.size hk) ?aB ?aS ?aL ?_
  (case aR => have h := Kd.C_drop (Kd.R_reads' HE2.out.hn).2.2 (m := i + 1) (c := cn) (by omega) (by omega); rw [List.length_drop] at h; exact h)
  (case aK => intro x cs hk; obtain rfl := k65_open hk; exact k65_mkM _ _ _ x)
  (case aB => exact HB2.out)
  (case aS => exact HSZ2.out)
  (case aL => have := HLN.out; rw [List.length_take]; omega)
  intro vz w3 ho hbb hg hat
  have hbv : Below V.heap.size V w3 := ⟨hg.1.trans HV2.out.os, hg.2.trans HV2.out.tape, hg.3.trans HV2.out.output, Nat.le_trans HV2.out.size hg.4, fun k hk => (hg.5 k (Nat.lt_of_lt_of_le hk HV2.out.size) (fun e => absurd (HO2.out.1 k e.symm) (by omega))).trans (HV2.out.block k hk)⟩
  obtain ⟨A3, c3n, rfl⟩ := Kd.R_slice ho
  have HO3 := Aside0.mk ho
  have HB3 := Aside0.mk hbb
  have HV3 := Aside0.mk hbv
  have HE3 := Aside0.mk (HE.out.below hbv)
  have BP3 := Aside0.mk (blk_below BP.out hbv)
  have BR3 := Aside0.mk (blk_below BR.out hbv)
  clear ho hbb hg hat hbv
  refine hK.out _ _ ?_
  clear hK K
  refine norm_ (a' := ?_) ?_ ?_
  rotate_left
  · show Act.put _ (some 30) _ = _
    exact put_
  refine pure_ (i := 17) (N := some 31) (v := ?_) (a' := ?_) #[true, true, true, true, true, true, true, true, true, true, true, true, true, true, true, true, true, true, false, false] rfl rfl (by kernel_rfl) (fun _ _ _ h => h) (Or.inl ⟨by rfl, ?_⟩) ?_ ?_
  rotate_left
  · intro w'
    go_simp
    with_reducible rfl
  rotate_left
  · exact put_
  refine pure_ (i := 18) (N := some 32) (v := ?_) (a' := ?_) #[true, true, true, true, true, true, true, true, true, true, true, true, true, true, true, true, true, true, true, false] rfl rfl (by kernel_rfl) (fun _ _ _ h => h) (Or.inl ⟨by rfl, ?_⟩) ?_ ?_
  rotate_left
  · intro w'
    go_simp
    with_reducible rfl
  rotate_left
  · exact put_
  refine last_ (i := 19) (N := none) #[true, true, true, true, true, true, true, true, true, true, true, true, true, true, true, true, true, true, true, true] rfl rfl (by kernel_rfl) (by decide) (fun K hK => ?_)
  have hct : w3.cell? ⟨g, 10, none⟩ = some (.slice (some ad) L.net.length cn) := (HE3.out.cell 10).trans rfl
  have hft : w3.frozen? ⟨g, 10, none⟩ = false := HE3.out.frozen 10
  refine skip_ (w1 := ?_) (by rfl) rfl ?_ ?_
  rotate_left
  · go_simp
    rfl
  refine hK.out _ _ ?_
  clear hK K
  refine done_ (by kernel_rfl) ?_
  have HLE := Aside0.mk (show (L.net.take i ++ L.net.drop (i + 1)).length = min i L.net.length + (L.net.length - (i + 1)) by rw [List.length_append, List.length_take, List.length_drop])
  rw [HLE.out] at HO3
  obtain ⟨w4, hw4⟩ : ∃ w4, w4 = w3.setCell { block := g, off := 10 } (Value.slice A3 (min i L.net.length + (L.net.length - (i + 1))) c3n) := ⟨_, rfl⟩
  have HE4 := Aside0.mk (HE.out.setNet2 HV3.out HO3.out)
  have BP4 := Aside0.mk (blk_far (p := ⟨g, 10, none⟩) BP3.out (by show gp ≠ g; have := HGR.out; have := HLT1.out; omega) (Value.slice A3 (min i L.net.length + (L.net.length - (i + 1))) c3n))
  have BR4 := Aside0.mk (blk_far (p := ⟨g, 10, none⟩) BR3.out (by show gr ≠ g; have := HGR.out; omega) (Value.slice A3 (min i L.net.length + (L.net.length - (i + 1))) c3n))
  have HB4 := Aside0.mk (HB3.out.setCell HE.out.low (p := ⟨g, 10, none⟩) (Value.slice A3 (min i L.net.length + (L.net.length - (i + 1))) c3n))
  rw [← hw4] at HE4 BP4 BR4 HB4 ⊢
  clear hw4
  have y0 := blk_cell BP4.out 0
  have y1 := blk_cell BP4.out 1
  have y2 := blk_cell BP4.out 2
  have t0 := blk_cell BR4.out 0
  have t1 := blk_cell BR4.out 1
  have t2 := blk_cell BR4.out 2
  have z0 := blk_frozen BR4.out 0
  have z1 := blk_frozen BR4.out 1
  have z2 := blk_frozen BR4.out 2
  generalize (if cn = i + 1 then some ad else some (ad.add ((i + 1) * 3))) = AX
  go_wp2
  have BR5 := blk_put (blk_put (blk_put BR4.out 0 (.int .i64 p.f0) rfl) 1 (.string p.f1) rfl) 2 (.bool p.f2) rfl
  have HB5 := Aside0.mk (((HB4.out.setCell (p := ⟨gr, 0, none⟩) HBB.out (.int .i64 p.f0)).setCell (p := ⟨gr, 1, none⟩) HBB.out (.string p.f1)).setCell (p := ⟨gr, 2, none⟩) HBB.out (.bool p.f2))
  obtain ⟨f4, hf4, he4⟩ := HE4.out
  have h9 : f4 gr = 9 := (hf4 gr HLT.out).trans HF9.out
  have HE5 := Aside0.mk (((he4.box h9 0 (.int .i64 p.f0)).box h9 1 (.string p.f1)).box h9 2 (.bool p.f2))
  clear he4 hf4 h9 BR4 HE4 HB4 y0 y1 y2 t0 t1 t2 z0 z1 z2
  generalize ((w4.setCell { block := gr, off := 0 } (Value.int IntKind.i64 p.f0)).setCell { block := gr, off := 1 } (Value.string p.f1)).setCell { block := gr, off := 2 } (Value.bool p.f2) = w5 at BR5 HB5 HE5 ⊢
  have u0 := blk_cell BR5 0
  have u1 := blk_cell BR5 1
  have u2 := blk_cell BR5 2
  refine bodyPost_ret (v := .agg #[.int .i64 p.f0, .string p.f1, .bool p.f2]) (by simp [results, Try.results29, go_sem, u0, u1, u2]) rfl ?_
  exact ⟨rfl, ⟨_, _, _, _, _, _, _, _, HE5.out⟩, HB5.out⟩
end Go.Proofs.Ytgfmdfgibkkfaaa.P
