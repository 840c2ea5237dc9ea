import Derived.Test.YtgfmdfgibkkfaaaKaPx0
import Derived.Test.YtgfmdfgibkkfaaaKaPx2
import Derived.Test.YtgfmdfgibkkfaaaKaEndsW
set_option linter.unusedVariables false
set_option linter.unusedSimpArgs false
namespace Go.Proofs.Ytgfmdfgibkkfaaa.P
open Go.RowKit Go.Proofs.YtgfmdfgibkkfaaaW.PrintWords Go.Proofs.YtgfmdfgibkkfaaaW.PrintLast Go.Proofs.YtgfmdfgibkkfaaaW.PrintMore
attribute [local go_sem] max2_int min2_int max_two min_two max_three min_three max_four min_four
def LS.puts0 (L : LS) (s : ByteArray) (y : Int × Int × Int × List ByteArray × Int × ByteArray × Int) : LS := if y.2.2.2.2.2.2 = 0 then ({ L with x0 := ⟨y.1, y.2.1, y.2.2.1, y.2.2.2.1, y.2.2.2.2.1⟩, p0 := L.p0 ++ [s] } : LS).send ⟨1, y.2.2.2.2.2.1, false⟩ else L
def LS.puts1 (L : LS) (s : ByteArray) (y : Int × Int × Int × List ByteArray × Int × ByteArray × Int) : LS := if y.2.2.2.2.2.2 = 0 then ({ L with x1 := ⟨y.1, y.2.1, y.2.2.1, y.2.2.2.1, y.2.2.2.2.1⟩, p1 := L.p1 ++ [s] } : LS).send ⟨0, y.2.2.2.2.2.1, false⟩ else L
set_option maxHeartbeats 4000000 in
set_option maxRecDepth 100000 in
theorem ends_puts0.calls (k b g : Nat) (L : LS) (ps : ByteArray) (y1 y2 y3 : Int) (y4 : List ByteArray) (y5 : Int) (y6 : ByteArray) (y7 : Int) (w : World) (h : Ends b w g L) (hb : b ≤ w.heap.size) (hlc : L.p0.length ≤ 1000) (hk : link_Put.f k L.x0.f0 L.x0.f1 L.x0.f2 L.x0.f3 L.x0.f4 ps = some (y1, y2, y3, y4, y5, y6, y7)) :
    Calls Try.prog 39 #[.pointer (some ⟨g, 0, none⟩), .int .i64 0, .string ps] w fun e w' => e = .returned (.tuple #[]) ∧ Ends b w' g (L.puts0 ps (y1, y2, y3, y4, y5, y6, y7)) ∧ Below b w w' := by
  obtain ⟨f, v0, v1, vn, q0, q1, r0, r1, h⟩ := h
  obtain ⟨A0, c0, hv, hc, hC⟩ := Kd.Q_reads h.h0
  obtain ⟨Ar, cr, hvr, _, _⟩ := Kd.R_reads h.hp0
  subst hv
  subst hvr
  have HCAP := Aside0.mk hc
  have HROW := Aside0.mk hC
  have HK := Aside0.mk hk
  have HLC := Aside0.mk hlc
  have HEV := Aside0.mk h
  have HBB := Aside0.mk hb
  clear hC hc hk h hb hlc
  have x0 : w.cell? ⟨g, 0, none⟩ = some (.int .i64 L.x0.f0) := (HEV.out.cell 0).trans rfl
  have x1 : w.cell? ⟨g, 1, none⟩ = some (.int .i64 L.x0.f1) := (HEV.out.cell 1).trans rfl
  have x2 : w.cell? ⟨g, 2, none⟩ = some (.int .i64 L.x0.f2) := (HEV.out.cell 2).trans rfl
  have x3 : w.cell? ⟨g, 3, none⟩ = some (.slice A0 L.x0.f3.length c0) := (HEV.out.cell 3).trans rfl
  have x4 : w.cell? ⟨g, 4, none⟩ = some (.int .i64 L.x0.f4) := (HEV.out.cell 4).trans rfl
  go_enter Try.func39, Try.ntmps39
  go_wp2_with fail
  (with_reducible refine (link_Put.calls k L.x0.f0 L.x0.f1 L.x0.f2 A0 c0 L.x0.f3 L.x0.f4 ps y1 y2 y3 y4 y5 y6 y7 _ HROW.out HCAP.out HK.out).mono ?_)
  rintro e w1 ⟨vy, rfl, ho, hb1⟩
  obtain ⟨A1, c1, rfl⟩ := Kd.R_slice ho
  have HD := Aside0.mk (PI.start HEV.out HBB.out hb1 ho 0 #[.int .i64 y1, .int .i64 y2, .int .i64 y3, .slice A1 y4.length c1, .int .i64 y5])
  clear ho hb1 x0 x1 x2 x3 x4
  by_cases he : y7 = 0
  · subst he
    have c1b : ((0 : Int) == 0) = true := rfl
    go_upto_region 2 with (fail)
    generalize w1.alloc (.cells #[.int .i64 y1, .int .i64 y2, .int .i64 y3, .slice A1 y4.length c1, .int .i64 y5] 24 (0, 0)) = w3 at HD ⊢
    generalize w1.heap.size = gy at HD ⊢
    replace HD := Aside0.mk HD.out.drew
    refine start_ (n := 7) (S := fun w' => w'.cell? ⟨gy, 0, none⟩ = some (.int .i64 y1) ∧ w'.cell? ⟨gy, 1, none⟩ = some (.int .i64 y2) ∧ w'.cell? ⟨gy, 2, none⟩ = some (.int .i64 y3) ∧ w'.cell? ⟨gy, 3, none⟩ = some (.slice A1 y4.length c1) ∧ w'.cell? ⟨gy, 4, none⟩ = some (.int .i64 y5)) (ds := [6]) #[false, false, false, false, false, false, false] (by kernel_rfl) rfl rfl ⟨((blk_cell HD.out.ye 0).trans rfl), ((blk_cell HD.out.ye 1).trans rfl), ((blk_cell HD.out.ye 2).trans rfl), ((blk_cell HD.out.ye 3).trans rfl), ((blk_cell HD.out.ye 4).trans rfl)⟩ (fun hHeld => ?_)
    generalize World.drew w3 = V at HD hHeld ⊢
    refine pure_ (i := 0) (N := some 23) (v := ?_) (a' := ?_) #[true, false, false, false, false, false, false] rfl rfl (by kernel_rfl) (fun _ _ _ h => h) (Or.inl ⟨by rfl, ?_⟩) ?_ ?_
    rotate_left
    · intro w'
      go_simp
      with_reducible rfl
    rotate_left
    · exact put_
    refine pure_ (i := 1) (N := some 24) (v := ?_) (a' := ?_) #[true, true, false, false, false, false, false] rfl rfl (by kernel_rfl) (fun _ _ _ h => h) (Or.inl ⟨by rfl, ?_⟩) ?_ ?_
    rotate_left
    · intro w'
      go_simp
      with_reducible rfl
    rotate_left
    · exact put_
    refine pure_ (i := 3) (N := some 26) (v := ?_) (a' := ?_) #[true, true, false, true, false, false, false] rfl rfl (by kernel_rfl) (fun _ _ _ h => h) (Or.inl ⟨by rfl, ?_⟩) ?_ ?_
    rotate_left
    · intro w'
      go_simp
      with_reducible rfl
    rotate_left
    · exact put_
    refine pure_ (i := 4) (N := some 27) (v := ?_) (a' := ?_) #[true, true, false, true, true, false, false] rfl rfl (by kernel_rfl) (fun _ _ _ h => h) (Or.inl ⟨by rfl, ?_⟩) ?_ ?_
    rotate_left
    · intro w'
      go_simp
      with_reducible rfl
    rotate_left
    · exact put_
    refine take_ (i := 2) (N := some 25) (v := ?_) (a' := ?_) #[true, true, true, true, true, false, false] rfl rfl (by kernel_rfl) (fun _ _ _ h => h) (Or.inl ⟨by rfl, ?_⟩) hHeld ?_ ?_
    rotate_left
    · rintro w' ⟨s0, s1, s2, s3, s4⟩
      go_simp
      with_reducible rfl
    rotate_left
    · exact put_
    refine pure_ (i := 5) (N := some 28) (v := ?_) (a' := ?_) #[true, true, true, true, true, true, false] rfl rfl (by kernel_rfl) (fun _ _ _ h => h) (Or.inl ⟨by rfl, ?_⟩) ?_ ?_
    rotate_left
    · intro w'
      go_simp
      with_reducible rfl
    rotate_left
    · exact put_
    refine last_ (i := 6) (N := none) #[true, true, true, true, true, true, true] rfl rfl (by kernel_rfl) (by decide) (fun K hK => ?_)
    have a0 : V.cell? ⟨g, 0, none⟩ = some (.int .i64 L.x0.f0) := (blk_cell HD.out.blk 0).trans rfl
    have a1 : V.cell? ⟨g, 1, none⟩ = some (.int .i64 L.x0.f1) := (blk_cell HD.out.blk 1).trans rfl
    have a2 : V.cell? ⟨g, 2, none⟩ = some (.int .i64 L.x0.f2) := (blk_cell HD.out.blk 2).trans rfl
    have a3 : V.cell? ⟨g, 3, none⟩ = some (.slice A0 L.x0.f3.length c0) := (blk_cell HD.out.blk 3).trans rfl
    have a4 : V.cell? ⟨g, 4, none⟩ = some (.int .i64 L.x0.f4) := (blk_cell HD.out.blk 4).trans rfl
    have b0 : V.frozen? ⟨g, 0, none⟩ = false := blk_frozen HD.out.blk 0
    have b1 : V.frozen? ⟨g, 1, none⟩ = false := blk_frozen HD.out.blk 1
    have b2 : V.frozen? ⟨g, 2, none⟩ = false := blk_frozen HD.out.blk 2
    have b3 : V.frozen? ⟨g, 3, none⟩ = false := blk_frozen HD.out.blk 3
    have b4 : V.frozen? ⟨g, 4, none⟩ = false := blk_frozen HD.out.blk 4
    refine skip_ (w1 := ?_) (by rfl) rfl ?_ ?_
    rotate_left
    · go_simp
      rfl
    refine hK.out _ _ ?_
    clear hK K
    refine done_ (by kernel_rfl) ?_
    clear a0 a1 a2 a3 a4 b0 b1 b2 b3 b4
    replace HD := Aside0.mk (HD.out.setX0 (⟨y1, y2, y3, y4, y5⟩ : S24) rfl)
    generalize (((((V.setCell { block := g, off := 0 } (Value.int .i64 y1)).setCell { block := g, off := 1 } (Value.int .i64 y2)).setCell { block := g, off := 2 } (Value.int .i64 y3)).setCell { block := g, off := 3 } (Value.slice A1 y4.length c1)).setCell { block := g, off := 4 } (Value.int .i64 y5)) = w4 at HD ⊢
    go_upto_region 3 with (fail)
    replace HD := Aside0.mk HD.out.drew
    obtain ⟨ff, hev, _⟩ := HD.out.ev
    replace HEV := Aside0.mk hev
    clear hev
    refine start_ (n := 15) (S := fun w' => w'.cell? ⟨g, 11, none⟩ = some (.slice Ar L.p0.length cr)) (ds := [10, 14]) #[false, false, false, false, false, false, false, false, false, false, false, false, false, false, false] (by kernel_rfl) rfl rfl (((blk_cell HD.out.blk 11).trans rfl)) (fun hHeld => ?_)
    generalize World.drew w4 = V at HD HEV hHeld ⊢
    refine pure_ (i := 0) (N := some 29) (v := ?_) (a' := ?_) #[true, false, false, false, false, false, false, false, false, false, false, false, false, false, false] rfl rfl (by kernel_rfl) (fun _ _ _ h => h) (Or.inl ⟨by rfl, ?_⟩) ?_ ?_
    rotate_left
    · intro w'
      go_simp
      with_reducible rfl
    rotate_left
    · exact put_
    refine pure_ (i := 1) (N := some 30) (v := ?_) (a' := ?_) #[true, true, false, false, false, false, false, false, false, false, false, false, false, false, false] rfl rfl (by kernel_rfl) (fun _ _ _ h => h) (Or.inl ⟨by rfl, ?_⟩) ?_ ?_
    rotate_left
    · intro w'
      go_simp
      with_reducible rfl
    rotate_left
    · exact put_
    refine pure_ (i := 2) (N := some 31) (v := ?_) (a' := ?_) #[true, true, true, false, false, false, false, false, false, false, false, false, false, false, false] rfl rfl (by kernel_rfl) (fun _ _ _ h => h) (Or.inl ⟨by rfl, ?_⟩) ?_ ?_
    rotate_left
    · intro w'
      go_simp
      with_reducible rfl
    rotate_left
    · exact put_
    refine pure_ (i := 3) (N := some 32) (v := ?_) (a' := ?_) #[true, true, true, true, false, false, false, false, false, false, false, false, false, false, false] rfl rfl (by kernel_rfl) (fun _ _ _ h => h) (Or.inl ⟨by rfl, ?_⟩) ?_ ?_
    rotate_left
    · intro w'
      go_simp
      with_reducible rfl
    rotate_left
    · exact put_
    refine pure_ (i := 4) (N := some 33) (v := ?_) (a' := ?_) #[true, true, true, true, true, false, false, false, false, false, false, false, false, false, false] rfl rfl (by kernel_rfl) (fun _ _ _ h => h) (Or.inl ⟨by rfl, ?_⟩) ?_ ?_
    rotate_left
    · intro w'
      go_simp
      with_reducible rfl
    rotate_left
    · exact put_
    refine pure_ (i := 5) (N := some 34) (v := ?_) (a' := ?_) #[true, true, true, true, true, true, false, false, false, false, false, false, false, false, false] rfl rfl (by kernel_rfl) (fun _ _ _ h => h) (Or.inl ⟨by rfl, ?_⟩) ?_ ?_
    rotate_left
    · intro w'
      go_simp
      with_reducible rfl
    rotate_left
    · exact put_
    refine pure_ (i := 6) (N := some 35) (v := ?_) (a' := ?_) #[true, true, true, true, true, true, true, false, false, false, false, false, false, false, false] rfl rfl (by kernel_rfl) (fun _ _ _ h => h) (Or.inl ⟨by rfl, ?_⟩) ?_ ?_
    rotate_left
    · intro w'
      go_simp
      with_reducible rfl
    rotate_left
    · exact put_
    refine pure_ (i := 8) (N := some 37) (v := ?_) (a' := ?_) #[true, true, true, true, true, true, true, false, true, false, false, false, false, false, false] rfl rfl (by kernel_rfl) (fun _ _ _ h => h) (Or.inl ⟨by rfl, ?_⟩) ?_ ?_
    rotate_left
    · intro w'
      go_simp
      with_reducible rfl
    rotate_left
    · exact put_
    refine pure_ (i := 11) (N := some 40) (v := ?_) (a' := ?_) #[true, true, true, true, true, true, true, false, true, false, false, true, false, false, false] rfl rfl (by kernel_rfl) (fun _ _ _ h => h) (Or.inl ⟨by rfl, ?_⟩) ?_ ?_
    rotate_left
    · intro w'
      go_simp
      with_reducible rfl
    rotate_left
    · exact put_
    refine pure_ (i := 12) (N := some 41) (v := ?_) (a' := ?_) #[true, true, true, true, true, true, true, false, true, false, false, true, true, false, false] rfl rfl (by kernel_rfl) (fun _ _ _ h => h) (Or.inl ⟨by rfl, ?_⟩) ?_ ?_
    rotate_left
    · intro w'
      go_simp
      with_reducible rfl
    rotate_left
    · exact put_
    refine take_ (i := 7) (N := some 36) (v := ?_) (a' := ?_) #[true, true, true, true, true, true, true, true, true, false, false, true, true, false, false] rfl rfl (by kernel_rfl) (fun _ _ _ h => h) (Or.inl ⟨by rfl, ?_⟩) hHeld ?_ ?_
    rotate_left
    · intro w' s0
      go_simp
      with_reducible rfl
    rotate_left
    · exact put_
    refine one_ (i := 9) (N := some 38) #[true, true, true, true, true, true, true, true, true, true, false, true, true, false, false] rfl rfl (by kernel_rfl) (by decide) (fun K hK => ?_)
    refine value_ (w1 := ?_) (v := ?_) (by rfl) rfl ?_ ?_
    rotate_left 2
    · go_simp
      constructor
      · rfl
      · rfl
    refine hK.out _ _ (((blk_cell (blk_alloc HD.out.blk _) 11).trans rfl)) (fun hHeld => ?_)
    clear hK K
    refine norm_ (a' := ?_) ?_ ?_
    rotate_left
    · show Act.put _ (some 38) _ = _
      exact put_
    refine last_ (i := 10) (N := some 39) #[true, true, true, true, true, true, true, true, true, true, true, true, true, false, false] rfl rfl (by kernel_rfl) (by decide) (fun K hK => ?_)
    refine Kd.R_append_step Kd.string (w0 := w) b (by rfl) (.tmp 36) (.tmp 38) 22 9 (.string ⟨#[]⟩) 16 rfl Try.underlying22 info9 rfl (by decide) (by omega) (.slice Ar L.p0.length cr) L.p0 ps [.string ps] (fun k => ff k = 3 ∨ V.heap.size ≤ k) (fun _ => False) rfl rfl ?aP (fun _ hk => hk.elim) ?aF ?aO ?aB ?aS ?aL ?_
    (case aP => exact rfl)
    (case aB => exact HD.out.hb)
    (case aF => exact (fun _ hk => .inr hk))
    (case aO => exact Kd.R_mono HEV.out.hp0 (fun _ hk => .inl hk))
    (case aS => exact HD.out.hs)
    (case aL => have := HLC.out; show (L.p0.length + 1) * 16 ≤ 140737488355328; omega)
    intro vz w8 ho hbb hg hat
    obtain ⟨A3, c3, rfl⟩ := Kd.R_slice ho
    have HO := Aside0.mk ho
    have HB8 := Aside0.mk hbb
    have HG := Aside0.mk hg
    have HBK := Aside0.mk (blk_grown HEV.out.blk hg (fun e => by have h5 : ff g = 3 := HEV.out.hp0.1 g e.symm; have h9 : ff g = 7 := HEV.out.own; omega))
    clear ho hbb hg hat
    refine hK.out _ _ ?_
    clear hK K
    refine norm_ (a' := ?_) ?_ ?_
    rotate_left
    · show Act.put _ (some 39) _ = _
      exact put_
    refine pure_ (i := 13) (N := some 42) (v := ?_) (a' := ?_) #[true, true, true, true, true, true, true, true, true, true, true, true, true, true, false] rfl rfl (by kernel_rfl) (fun _ _ _ h => h) (Or.inl ⟨by rfl, ?_⟩) ?_ ?_
    rotate_left
    · intro w'
      go_simp
      with_reducible rfl
    rotate_left
    · exact put_
    refine last_ (i := 14) (N := none) #[true, true, true, true, true, true, true, true, true, true, true, true, true, true, true] rfl rfl (by kernel_rfl) (by decide) (fun K hK => ?_)
    have hct : w8.cell? ⟨g, 11, none⟩ = some (.slice Ar L.p0.length cr) := (blk_cell HBK.out 11).trans rfl
    have hft : w8.frozen? ⟨g, 11, none⟩ = false := blk_frozen HBK.out 11
    refine skip_ (w1 := ?_) (by rfl) rfl ?_ ?_
    rotate_left
    · go_simp
      rfl
    refine hK.out _ _ ?_
    clear hK K
    refine done_ (by kernel_rfl) ?_
    have hlen : (L.p0 ++ [ps]).length = L.p0.length + 1 := by simp
    obtain ⟨f9, hf9, he9⟩ := HEV.out.set_p0 HG.out HO.out
    rw [hlen] at he9
    have HB9 := Aside0.mk (HB8.out.setCell (p := ⟨g, 11, none⟩) HEV.out.low (.slice A3 (L.p0.length + 1) c3))
    have HE9 : Aside0 (Ends b _ g { L with x0 := (⟨y1, y2, y3, y4, y5⟩ : S24), p0 := L.p0 ++ [ps] }) := ⟨⟨f9, _, _, _, _, _, _, _, he9⟩⟩
    have HS9 := Aside0.mk (Nat.le_of_lt (Nat.lt_of_le_of_lt he9.low he9.lt))
    clear hlen he9 hf9
    generalize w8.setCell { block := g, off := 11 } (Value.slice A3 (L.p0.length + 1) c3) = w9 at HB9 HE9 HS9 ⊢
    have z0 : wrap64 (1 - 0) = 1 := by unfold wrap64; omega
    go_wp2_with fail
    (with_reducible refine (ends_send.calls b g _ (⟨1, y6, false⟩ : S65) _ HE9.out HS9.out).mono ?_)
    rintro e wz ⟨rfl, hez, hbz⟩
    go_wp2
    refine bodyPost_end (results_none rfl _ _ _) rfl ?_
    exact ⟨rfl, by unfold LS.puts0; rw [if_pos rfl]; exact hez, HB9.out.trans hbz⟩
  · have c1b : (y7 == 0) = false := beq_eq_false_iff_ne.2 he
    have HY := Aside0.mk he
    clear he
    go_wp2
    refine bodyPost_end (results_none rfl _ _ _) rfl ?_
    obtain ⟨ff, hev, _⟩ := HD.out.ev
    exact ⟨rfl, by unfold LS.puts0; rw [if_neg HY.out]; exact ⟨ff, _, _, _, _, _, _, _, hev⟩, HD.out.hb⟩
set_option maxHeartbeats 4000000 in
set_option maxRecDepth 100000 in
theorem ends_puts1.calls (k b g : Nat) (L : LS) (ps : ByteArray) (y1 y2 y3 : Int) (y4 : List ByteArray) (y5 : Int) (y6 : ByteArray) (y7 : Int) (w : World) (h : Ends b w g L) (hb : b ≤ w.heap.size) (hlc : L.p1.length ≤ 1000) (hk : link_Put.f k L.x1.f0 L.x1.f1 L.x1.f2 L.x1.f3 L.x1.f4 ps = some (y1, y2, y3, y4, y5, y6, y7)) :
    Calls Try.prog 39 #[.pointer (some ⟨g, 0, none⟩), .int .i64 1, .string ps] w fun e w' => e = .returned (.tuple #[]) ∧ Ends b w' g (L.puts1 ps (y1, y2, y3, y4, y5, y6, y7)) ∧ Below b w w' := by
  obtain ⟨f, v0, v1, vn, q0, q1, r0, r1, h⟩ := h
  obtain ⟨A0, c0, hv, hc, hC⟩ := Kd.Q_reads h.h1
  obtain ⟨Ar, cr, hvr, _, _⟩ := Kd.R_reads h.hp1
  subst hv
  subst hvr
  have HCAP := Aside0.mk hc
  have HROW := Aside0.mk hC
  have HK := Aside0.mk hk
  have HLC := Aside0.mk hlc
  have HEV := Aside0.mk h
  have HBB := Aside0.mk hb
  clear hC hc hk h hb hlc
  have x0 : w.cell? ⟨g, 5, none⟩ = some (.int .i64 L.x1.f0) := (HEV.out.cell 5).trans rfl
  have x1 : w.cell? ⟨g, 6, none⟩ = some (.int .i64 L.x1.f1) := (HEV.out.cell 6).trans rfl
  have x2 : w.cell? ⟨g, 7, none⟩ = some (.int .i64 L.x1.f2) := (HEV.out.cell 7).trans rfl
  have x3 : w.cell? ⟨g, 8, none⟩ = some (.slice A0 L.x1.f3.length c0) := (HEV.out.cell 8).trans rfl
  have x4 : w.cell? ⟨g, 9, none⟩ = some (.int .i64 L.x1.f4) := (HEV.out.cell 9).trans rfl
  go_enter Try.func39, Try.ntmps39
  go_wp2_with fail
  (with_reducible refine (link_Put.calls k L.x1.f0 L.x1.f1 L.x1.f2 A0 c0 L.x1.f3 L.x1.f4 ps y1 y2 y3 y4 y5 y6 y7 _ HROW.out HCAP.out HK.out).mono ?_)
  rintro e w1 ⟨vy, rfl, ho, hb1⟩
  obtain ⟨A1, c1, rfl⟩ := Kd.R_slice ho
  have HD := Aside0.mk (PI.start HEV.out HBB.out hb1 ho 1 #[.int .i64 y1, .int .i64 y2, .int .i64 y3, .slice A1 y4.length c1, .int .i64 y5])
  clear ho hb1 x0 x1 x2 x3 x4
  by_cases he : y7 = 0
  · subst he
    have c1b : ((0 : Int) == 0) = true := rfl
    go_upto_region 2 with (fail)
    generalize w1.alloc (.cells #[.int .i64 y1, .int .i64 y2, .int .i64 y3, .slice A1 y4.length c1, .int .i64 y5] 24 (0, 0)) = w3 at HD ⊢
    generalize w1.heap.size = gy at HD ⊢
    replace HD := Aside0.mk HD.out.drew
    refine start_ (n := 7) (S := fun w' => w'.cell? ⟨gy, 0, none⟩ = some (.int .i64 y1) ∧ w'.cell? ⟨gy, 1, none⟩ = some (.int .i64 y2) ∧ w'.cell? ⟨gy, 2, none⟩ = some (.int .i64 y3) ∧ w'.cell? ⟨gy, 3, none⟩ = some (.slice A1 y4.length c1) ∧ w'.cell? ⟨gy, 4, none⟩ = some (.int .i64 y5)) (ds := [6]) #[false, false, false, false, false, false, false] (by kernel_rfl) rfl rfl ⟨((blk_cell HD.out.ye 0).trans rfl), ((blk_cell HD.out.ye 1).trans rfl), ((blk_cell HD.out.ye 2).trans rfl), ((blk_cell HD.out.ye 3).trans rfl), ((blk_cell HD.out.ye 4).trans rfl)⟩ (fun hHeld => ?_)
    generalize World.drew w3 = V at HD hHeld ⊢
    refine pure_ (i := 0) (N := some 23) (v := ?_) (a' := ?_) #[true, false, false, false, false, false, false] rfl rfl (by kernel_rfl) (fun _ _ _ h => h) (Or.inl ⟨by rfl, ?_⟩) ?_ ?_
    rotate_left
    · intro w'
      go_simp
      with_reducible rfl
    rotate_left
    · exact put_
    refine pure_ (i := 1) (N := some 24) (v := ?_) (a' := ?_) #[true, true, false, false, false, false, false] rfl rfl (by kernel_rfl) (fun _ _ _ h => h) (Or.inl ⟨by rfl, ?_⟩) ?_ ?_
    rotate_left
    · intro w'
      go_simp
      with_reducible rfl
    rotate_left
    · exact put_
    refine pure_ (i := 3) (N := some 26) (v := ?_) (a' := ?_) #[true, true, false, true, false, false, false] rfl rfl (by kernel_rfl) (fun _ _ _ h => h) (Or.inl ⟨by rfl, ?_⟩) ?_ ?_
    rotate_left
    · intro w'
      go_simp
      with_reducible rfl
    rotate_left
    · exact put_
    refine pure_ (i := 4) (N := some 27) (v := ?_) (a' := ?_) #[true, true, false, true, true, false, false] rfl rfl (by kernel_rfl) (fun _ _ _ h => h) (Or.inl ⟨by rfl, ?_⟩) ?_ ?_
    rotate_left
    · intro w'
      go_simp
      with_reducible rfl
    rotate_left
    · exact put_
    refine take_ (i := 2) (N := some 25) (v := ?_) (a' := ?_) #[true, true, true, true, true, false, false] rfl rfl (by kernel_rfl) (fun _ _ _ h => h) (Or.inl ⟨by rfl, ?_⟩) hHeld ?_ ?_
    rotate_left
    · rintro w' ⟨s0, s1, s2, s3, s4⟩
      go_simp
      with_reducible rfl
    rotate_left
    · exact put_
    refine pure_ (i := 5) (N := some 28) (v := ?_) (a' := ?_) #[true, true, true, true, true, true, false] rfl rfl (by kernel_rfl) (fun _ _ _ h => h) (Or.inl ⟨by rfl, ?_⟩) ?_ ?_
    rotate_left
    · intro w'
      go_simp
      with_reducible rfl
    rotate_left
    · exact put_
    refine last_ (i := 6) (N := none) #[true, true, true, true, true, true, true] rfl rfl (by kernel_rfl) (by decide) (fun K hK => ?_)
    have a0 : V.cell? ⟨g, 5, none⟩ = some (.int .i64 L.x1.f0) := (blk_cell HD.out.blk 5).trans rfl
    have a1 : V.cell? ⟨g, 6, none⟩ = some (.int .i64 L.x1.f1) := (blk_cell HD.out.blk 6).trans rfl
    have a2 : V.cell? ⟨g, 7, none⟩ = some (.int .i64 L.x1.f2) := (blk_cell HD.out.blk 7).trans rfl
    have a3 : V.cell? ⟨g, 8, none⟩ = some (.slice A0 L.x1.f3.length c0) := (blk_cell HD.out.blk 8).trans rfl
    have a4 : V.cell? ⟨g, 9, none⟩ = some (.int .i64 L.x1.f4) := (blk_cell HD.out.blk 9).trans rfl
    have b0 : V.frozen? ⟨g, 5, none⟩ = false := blk_frozen HD.out.blk 5
    have b1 : V.frozen? ⟨g, 6, none⟩ = false := blk_frozen HD.out.blk 6
    have b2 : V.frozen? ⟨g, 7, none⟩ = false := blk_frozen HD.out.blk 7
    have b3 : V.frozen? ⟨g, 8, none⟩ = false := blk_frozen HD.out.blk 8
    have b4 : V.frozen? ⟨g, 9, none⟩ = false := blk_frozen HD.out.blk 9
    refine skip_ (w1 := ?_) (by rfl) rfl ?_ ?_
    rotate_left
    · go_simp
      rfl
    refine hK.out _ _ ?_
    clear hK K
    refine done_ (by kernel_rfl) ?_
    clear a0 a1 a2 a3 a4 b0 b1 b2 b3 b4
    replace HD := Aside0.mk (HD.out.setX1 (⟨y1, y2, y3, y4, y5⟩ : S24) rfl)
    generalize (((((V.setCell { block := g, off := 5 } (Value.int .i64 y1)).setCell { block := g, off := 6 } (Value.int .i64 y2)).setCell { block := g, off := 7 } (Value.int .i64 y3)).setCell { block := g, off := 8 } (Value.slice A1 y4.length c1)).setCell { block := g, off := 9 } (Value.int .i64 y5)) = w4 at HD ⊢
    go_upto_region 3 with (fail)
    replace HD := Aside0.mk HD.out.drew
    obtain ⟨ff, hev, _⟩ := HD.out.ev
    replace HEV := Aside0.mk hev
    clear hev
    refine start_ (n := 15) (S := fun w' => w'.cell? ⟨g, 12, none⟩ = some (.slice Ar L.p1.length cr)) (ds := [10, 14]) #[false, false, false, false, false, false, false, false, false, false, false, false, false, false, false] (by kernel_rfl) rfl rfl (((blk_cell HD.out.blk 12).trans rfl)) (fun hHeld => ?_)
    generalize World.drew w4 = V at HD HEV hHeld ⊢
    refine pure_ (i := 0) (N := some 29) (v := ?_) (a' := ?_) #[true, false, false, false, false, false, false, false, false, false, false, false, false, false, false] rfl rfl (by kernel_rfl) (fun _ _ _ h => h) (Or.inl ⟨by rfl, ?_⟩) ?_ ?_
    rotate_left
    · intro w'
      go_simp
      with_reducible rfl
    rotate_left
    · exact put_
    refine pure_ (i := 1) (N := some 30) (v := ?_) (a' := ?_) #[true, true, false, false, false, false, false, false, false, false, false, false, false, false, false] rfl rfl (by kernel_rfl) (fun _ _ _ h => h) (Or.inl ⟨by rfl, ?_⟩) ?_ ?_
    rotate_left
    · intro w'
      go_simp
      with_reducible rfl
    rotate_left
    · exact put_
    refine pure_ (i := 2) (N := some 31) (v := ?_) (a' := ?_) #[true, true, true, false, false, false, false, false, false, false, false, false, false, false, false] rfl rfl (by kernel_rfl) (fun _ _ _ h => h) (Or.inl ⟨by rfl, ?_⟩) ?_ ?_
    rotate_left
    · intro w'
      go_simp
      with_reducible rfl
    rotate_left
    · exact put_
    refine pure_ (i := 3) (N := some 32) (v := ?_) (a' := ?_) #[true, true, true, true, false, false, false, false, false, false, false, false, false, false, false] rfl rfl (by kernel_rfl) (fun _ _ _ h => h) (Or.inl ⟨by rfl, ?_⟩) ?_ ?_
    rotate_left
    · intro w'
      go_simp
      with_reducible rfl
    rotate_left
    · exact put_
    refine pure_ (i := 4) (N := some 33) (v := ?_) (a' := ?_) #[true, true, true, true, true, false, false, false, false, false, false, false, false, false, false] rfl rfl (by kernel_rfl) (fun _ _ _ h => h) (Or.inl ⟨by rfl, ?_⟩) ?_ ?_
    rotate_left
    · intro w'
      go_simp
      with_reducible rfl
    rotate_left
    · exact put_
    refine pure_ (i := 5) (N := some 34) (v := ?_) (a' := ?_) #[true, true, true, true, true, true, false, false, false, false, false, false, false, false, false] rfl rfl (by kernel_rfl) (fun _ _ _ h => h) (Or.inl ⟨by rfl, ?_⟩) ?_ ?_
    rotate_left
    · intro w'
      go_simp
      with_reducible rfl
    rotate_left
    · exact put_
    refine pure_ (i := 6) (N := some 35) (v := ?_) (a' := ?_) #[true, true, true, true, true, true, true, false, false, false, false, false, false, false, false] rfl rfl (by kernel_rfl) (fun _ _ _ h => h) (Or.inl ⟨by rfl, ?_⟩) ?_ ?_
    rotate_left
    · intro w'
      go_simp
      with_reducible rfl
    rotate_left
    · exact put_
    refine pure_ (i := 8) (N := some 37) (v := ?_) (a' := ?_) #[true, true, true, true, true, true, true, false, true, false, false, false, false, false, false] rfl rfl (by kernel_rfl) (fun _ _ _ h => h) (Or.inl ⟨by rfl, ?_⟩) ?_ ?_
    rotate_left
    · intro w'
      go_simp
      with_reducible rfl
    rotate_left
    · exact put_
    refine pure_ (i := 11) (N := some 40) (v := ?_) (a' := ?_) #[true, true, true, true, true, true, true, false, true, false, false, true, false, false, false] rfl rfl (by kernel_rfl) (fun _ _ _ h => h) (Or.inl ⟨by rfl, ?_⟩) ?_ ?_
    rotate_left
    · intro w'
      go_simp
      with_reducible rfl
    rotate_left
    · exact put_
    refine pure_ (i := 12) (N := some 41) (v := ?_) (a' := ?_) #[true, true, true, true, true, true, true, false, true, false, false, true, true, false, false] rfl rfl (by kernel_rfl) (fun _ _ _ h => h) (Or.inl ⟨by rfl, ?_⟩) ?_ ?_
    rotate_left
    · intro w'
      go_simp
      with_reducible rfl
    rotate_left
    · exact put_
    refine take_ (i := 7) (N := some 36) (v := ?_) (a' := ?_) #[true, true, true, true, true, true, true, true, true, false, false, true, true, false, false] rfl rfl (by kernel_rfl) (fun _ _ _ h => h) (Or.inl ⟨by rfl, ?_⟩) hHeld ?_ ?_
    rotate_left
    · intro w' s0
      go_simp
      with_reducible rfl
    rotate_left
    · exact put_
    refine one_ (i := 9) (N := some 38) #[true, true, true, true, true, true, true, true, true, true, false, true, true, false, false] rfl rfl (by kernel_rfl) (by decide) (fun K hK => ?_)
    refine value_ (w1 := ?_) (v := ?_) (by rfl) rfl ?_ ?_
    rotate_left 2
    · go_simp
      constructor
      · rfl
      · rfl
    refine hK.out _ _ (((blk_cell (blk_alloc HD.out.blk _) 12).trans rfl)) (fun hHeld => ?_)
    clear hK K
    refine norm_ (a' := ?_) ?_ ?_
    rotate_left
    · show Act.put _ (some 38) _ = _
      exact put_
    refine last_ (i := 10) (N := some 39) #[true, true, true, true, true, true, true, true, true, true, true, true, true, false, false] rfl rfl (by kernel_rfl) (by decide) (fun K hK => ?_)
    refine Kd.R_append_step Kd.string (w0 := w) b (by rfl) (.tmp 36) (.tmp 38) 22 9 (.string ⟨#[]⟩) 16 rfl Try.underlying22 info9 rfl (by decide) (by omega) (.slice Ar L.p1.length cr) L.p1 ps [.string ps] (fun k => ff k = 4 ∨ V.heap.size ≤ k) (fun _ => False) rfl rfl ?aP (fun _ hk => hk.elim) ?aF ?aO ?aB ?aS ?aL ?_
    (case aP => exact rfl)
    (case aB => exact HD.out.hb)
    (case aF => exact (fun _ hk => .inr hk))
    (case aO => exact Kd.R_mono HEV.out.hp1 (fun _ hk => .inl hk))
    (case aS => exact HD.out.hs)
    (case aL => have := HLC.out; show (L.p1.length + 1) * 16 ≤ 140737488355328; omega)
    intro vz w8 ho hbb hg hat
    obtain ⟨A3, c3, rfl⟩ := Kd.R_slice ho
    have HO := Aside0.mk ho
    have HB8 := Aside0.mk hbb
    have HG := Aside0.mk hg
    have HBK := Aside0.mk (blk_grown HEV.out.blk hg (fun e => by have h5 : ff g = 4 := HEV.out.hp1.1 g e.symm; have h9 : ff g = 7 := HEV.out.own; omega))
    clear ho hbb hg hat
    refine hK.out _ _ ?_
    clear hK K
    refine norm_ (a' := ?_) ?_ ?_
    rotate_left
    · show Act.put _ (some 39) _ = _
      exact put_
    refine pure_ (i := 13) (N := some 42) (v := ?_) (a' := ?_) #[true, true, true, true, true, true, true, true, true, true, true, true, true, true, false] rfl rfl (by kernel_rfl) (fun _ _ _ h => h) (Or.inl ⟨by rfl, ?_⟩) ?_ ?_
    rotate_left
    · intro w'
      go_simp
      with_reducible rfl
    rotate_left
    · exact put_
    refine last_ (i := 14) (N := none) #[true, true, true, true, true, true, true, true, true, true, true, true, true, true, true] rfl rfl (by kernel_rfl) (by decide) (fun K hK => ?_)
    have hct : w8.cell? ⟨g, 12, none⟩ = some (.slice Ar L.p1.length cr) := (blk_cell HBK.out 12).trans rfl
    have hft : w8.frozen? ⟨g, 12, none⟩ = false := blk_frozen HBK.out 12
    refine skip_ (w1 := ?_) (by rfl) rfl ?_ ?_
    rotate_left
    · go_simp
      rfl
    refine hK.out _ _ ?_
    clear hK K
    refine done_ (by kernel_rfl) ?_
    have hlen : (L.p1 ++ [ps]).length = L.p1.length + 1 := by simp
    obtain ⟨f9, hf9, he9⟩ := HEV.out.set_p1 HG.out HO.out
    rw [hlen] at he9
    have HB9 := Aside0.mk (HB8.out.setCell (p := ⟨g, 12, none⟩) HEV.out.low (.slice A3 (L.p1.length + 1) c3))
    have HE9 : Aside0 (Ends b _ g { L with x1 := (⟨y1, y2, y3, y4, y5⟩ : S24), p1 := L.p1 ++ [ps] }) := ⟨⟨f9, _, _, _, _, _, _, _, he9⟩⟩
    have HS9 := Aside0.mk (Nat.le_of_lt (Nat.lt_of_le_of_lt he9.low he9.lt))
    clear hlen he9 hf9
    generalize w8.setCell { block := g, off := 12 } (Value.slice A3 (L.p1.length + 1) c3) = w9 at HB9 HE9 HS9 ⊢
    have z0 : wrap64 (1 - 1) = 0 := by unfold wrap64; omega
    go_wp2_with fail
    (with_reducible refine (ends_send.calls b g _ (⟨0, y6, false⟩ : S65) _ HE9.out HS9.out).mono ?_)
    rintro e wz ⟨rfl, hez, hbz⟩
    go_wp2
    refine bodyPost_end (results_none rfl _ _ _) rfl ?_
    exact ⟨rfl, by unfold LS.puts1; rw [if_pos rfl]; exact hez, HB9.out.trans hbz⟩
  · have c1b : (y7 == 0) = false := beq_eq_false_iff_ne.2 he
    have HY := Aside0.mk he
    clear he
    go_wp2
    refine bodyPost_end (results_none rfl _ _ _) rfl ?_
    obtain ⟨ff, hev, _⟩ := HD.out.ev
    exact ⟨rfl, by unfold LS.puts1; rw [if_neg HY.out]; exact ⟨ff, _, _, _, _, _, _, _, hev⟩, HD.out.hb⟩
end Go.Proofs.Ytgfmdfgibkkfaaa.P
