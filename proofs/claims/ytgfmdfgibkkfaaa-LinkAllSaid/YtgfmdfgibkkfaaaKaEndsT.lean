import Derived.Test.YtgfmdfgibkkfaaaKaPx0
import Derived.Test.YtgfmdfgibkkfaaaKaPx2
import Derived.Test.YtgfmdfgibkkfaaaKaEndsA
set_option linter.unusedVariables false
set_option linter.unusedSimpArgs false
namespace Go.Proofs.Ytgfmdfgibkkfaaa.P
open Go.RowKit Go.Proofs.YtgfmdfgibkkfaaaW.PrintWords Go.Proofs.YtgfmdfgibkkfaaaW.PrintLast Go.Proofs.YtgfmdfgibkkfaaaW.PrintMore
attribute [local go_sem] max2_int min2_int max_two min_two max_three min_three max_four min_four
def LS.sendAll (L : LS) (tt : Int) (ss : List ByteArray) : LS := ss.foldl (fun L s => L.send ⟨tt, s, false⟩) L
def TickI (b : Nat) (w W : World) (g : Nat) (L : LS) (tt : Int) (ga : Nat) (a : S55) (A2 : Option Addr) (c2 : Nat) (ss : List ByteArray) (j : Nat) : Prop :=
  ∃ f, EndsF b W g (L.sendAll tt (ss.take j)) f ∧ f ga = 9 ∧ W.heap[ga]? = some (.cells #[.int .i64 a.f0, .int .i64 a.f1, .string a.f2] 55 (0, 0)) ∧ Kd.string.R 9 W b (fun k => f k = 9) (.slice A2 ss.length c2) ss ∧ Below b w W ∧ b ≤ W.heap.size
theorem tickI_succ {L : LS} {tt : Int} {ss : List ByteArray} {j : Nat} (h : j < ss.length) : L.sendAll tt (ss.take (j + 1)) = (L.sendAll tt (ss.take j)).send ⟨tt, ss[j], false⟩ := by
  unfold LS.sendAll
  rw [List.take_add_one, List.getElem?_eq_getElem h, List.foldl_append]
  rfl
set_option maxHeartbeats 4000000 in
set_option maxRecDepth 100000 in
theorem ends_act_t30.calls (k b g : Nat) (L : LS) (a : S55) (w : World) (h : Ends b w g L) (hb : b ≤ w.heap.size) (hK : actK a = 3) (ss : List ByteArray) (hwho : (IntKind.u64.wrap a.f1).tmod 2 = 0) (ht : link_Tick.f k L.x0.f0 L.x0.f1 L.x0.f2 L.x0.f3 L.x0.f4 = some ss) :
    Calls Try.prog 25 #[.pointer (some ⟨g, 0, none⟩), .agg #[.int .i64 a.f0, .int .i64 a.f1, .string a.f2]] w fun e w' => e = .returned (.tuple #[]) ∧ Ends b w' g (L.sendAll 1 ss) ∧ Below b w w' := by
  obtain ⟨f, v0, v1, vn, q0, q1, r0, r1, h⟩ := h
  have hba := below_alloc (Below.refl w.heap.size w) (.cells #[.int .i64 a.f0, .int .i64 a.f1, .string a.f2] 55 (0, 0))
  have BA := Aside0.mk (blk_new w (.cells #[.int .i64 a.f0, .int .i64 a.f1, .string a.f2] 55 (0, 0)))
  have HEV := Aside0.mk (h.fresh hba 9)
  have HF9 : Aside0 (tagf f w.heap.size 9 w.heap.size = 9) := ⟨by unfold tagf; rw [if_pos (Nat.le_refl _)]⟩
  generalize tagf f w.heap.size 9 = f at HEV HF9
  have HBW := Aside0.mk (hba.mono hb)
  have HS0 := Aside0.mk (Nat.le_trans hb hba.size)
  have a0 := blk_cell BA.out 0
  clear h hba hb
  go_enter Try.func25, Try.ntmps25
  go_upto_region 2 with (fail)
  rw [show wrap64 ((IntKind.u64.wrap a.f0).tmod 12) = 3 from hK]
  clear a0 hK
  generalize w.alloc (.cells #[.int .i64 a.f0, .int .i64 a.f1, .string a.f2] 55 (0, 0)) = W0 at BA HEV HBW HS0 ⊢
  generalize w.heap.size = ga at BA HF9 ⊢
  have a1 : W0.cell? ⟨ga, 1, none⟩ = some (.int .i64 a.f1) := (blk_cell BA.out 1).trans rfl
  have a2 : W0.cell? ⟨ga, 2, none⟩ = some (.string a.f2) := (blk_cell BA.out 2).trans rfl
  have HT := Aside0.mk ht
  have HWHO := Aside0.mk hwho
  clear ht
  obtain ⟨A0, c0, hv, hc, _⟩ := Kd.Q_reads HEV.out.h0
  subst hv
  have HCAP := Aside0.mk hc
  clear hc
  go_upto_region 10 with (fail)
  replace BA := Aside0.mk (blk_drew BA.out)
  replace HEV := Aside0.mk HEV.out.drew
  replace HBW := Aside0.mk HBW.out.drew
  replace HS0 : Aside0 (b ≤ (World.drew W0).heap.size) := HS0
  clear a1 a2
  refine start_ (n := 12) (S := fun w' => w'.cell? ⟨ga, 1, none⟩ = some (.int .i64 a.f1) ∧ w'.cell? ⟨g, 0, none⟩ = some (.int .i64 L.x0.f0) ∧ w'.cell? ⟨g, 1, none⟩ = some (.int .i64 L.x0.f1) ∧ w'.cell? ⟨g, 2, none⟩ = some (.int .i64 L.x0.f2) ∧ w'.cell? ⟨g, 3, none⟩ = some (.slice A0 L.x0.f3.length c0) ∧ w'.cell? ⟨g, 4, none⟩ = some (.int .i64 L.x0.f4)) (ds := []) #[false, false, false, false, false, false, false, false, false, false, false, false] (by kernel_rfl) rfl rfl ⟨((blk_cell BA.out 1).trans rfl), ((HEV.out.cell 0).trans rfl), ((HEV.out.cell 1).trans rfl), ((HEV.out.cell 2).trans rfl), ((HEV.out.cell 3).trans rfl), ((HEV.out.cell 4).trans rfl)⟩ (fun hHeld => ?_)
  generalize World.drew W0 = V at BA HEV HBW HS0 hHeld ⊢
  refine pure_ (i := 0) (N := some 31) (v := ?_) (a' := ?_) #[true, false, false, false, false, false, false, false, false, false, false, false] rfl rfl (by kernel_rfl) (fun _ _ _ h => h) (Or.inl ⟨by rfl, ?_⟩) ?_ ?_
  rotate_left
  · intro w'
    go_simp
    with_reducible rfl
  rotate_left
  · exact put_
  refine pure_ (i := 1) (N := some 32) (v := ?_) (a' := ?_) #[true, true, false, false, false, false, false, false, false, false, false, false] rfl rfl (by kernel_rfl) (fun _ _ _ h => h) (Or.inl ⟨by rfl, ?_⟩) ?_ ?_
  rotate_left
  · intro w'
    go_simp
    with_reducible rfl
  rotate_left
  · exact put_
  refine pure_ (i := 5) (N := some 36) (v := ?_) (a' := ?_) #[true, true, false, false, false, true, false, false, false, false, false, false] rfl rfl (by kernel_rfl) (fun _ _ _ h => h) (Or.inl ⟨by rfl, ?_⟩) ?_ ?_
  rotate_left
  · intro w'
    go_simp
    with_reducible rfl
  rotate_left
  · exact put_
  refine pure_ (i := 6) (N := some 37) (v := ?_) (a' := ?_) #[true, true, false, false, false, true, true, false, false, false, false, false] rfl rfl (by kernel_rfl) (fun _ _ _ h => h) (Or.inl ⟨by rfl, ?_⟩) ?_ ?_
  rotate_left
  · intro w'
    go_simp
    with_reducible rfl
  rotate_left
  · exact put_
  refine pure_ (i := 11) (N := some 42) (v := ?_) (a' := ?_) #[true, true, false, false, false, true, true, false, false, false, false, true] rfl rfl (by kernel_rfl) (fun _ _ _ h => h) (Or.inl ⟨by rfl, ?_⟩) ?_ ?_
  rotate_left
  · intro w'
    go_simp
    with_reducible rfl
  rotate_left
  · exact put_
  refine take_ (i := 2) (N := some 33) (v := ?_) (a' := ?_) #[true, true, true, false, false, true, true, false, false, false, false, true] rfl rfl (by kernel_rfl) (fun _ _ _ h => h) (Or.inl ⟨by rfl, ?_⟩) hHeld ?_ ?_
  rotate_left
  · rintro w' ⟨s0, s1, s2, s3, s4, s5⟩
    go_simp
    with_reducible rfl
  rotate_left
  · exact put_
  refine pure_ (i := 3) (N := some 34) (v := ?_) (a' := ?_) #[true, true, true, true, false, true, true, false, false, false, false, true] rfl rfl (by kernel_rfl) (fun _ _ _ h => h) (Or.inl ⟨by rfl, ?_⟩) ?_ ?_
  rotate_left
  · intro w'
    go_simp
    with_reducible rfl
  rotate_left
  · exact put_
  refine pure_ (i := 4) (N := some 35) (v := ?_) (a' := ?_) #[true, true, true, true, true, true, true, false, false, false, false, true] rfl rfl (by kernel_rfl) (fun _ _ _ h => h) (Or.inl ⟨by rfl, ?_⟩) ?_ ?_
  rotate_left
  · intro w'
    go_simp
    with_reducible rfl
  rotate_left
  · exact put_
  refine pure_ (i := 7) (N := some 38) (v := ?_) (a' := ?_) #[true, true, true, true, true, true, true, true, false, false, false, true] rfl rfl (by kernel_rfl) (fun _ _ _ h => h) (Or.inl ⟨by rfl, ?_⟩) ?_ ?_
  rotate_left
  · intro w'
    go_simp
    with_reducible rfl
  rotate_left
  · exact put_
  refine take_ (i := 8) (N := some 39) (v := ?_) (a' := ?_) #[true, true, true, true, true, true, true, true, true, false, false, true] rfl rfl (by kernel_rfl) (fun _ _ _ h => h) (Or.inl ⟨by rfl, ?_⟩) hHeld ?_ ?_
  rotate_left
  · rintro w' ⟨s0, s1, s2, s3, s4, s5⟩
    go_simp
    with_reducible rfl
  rotate_left
  · exact put_
  refine one_ (i := 9) (N := some 40) #[true, true, true, true, true, true, true, true, true, true, false, true] rfl rfl (by kernel_rfl) (by decide) (fun K hK => ?_)
  refine goes_ Try.func13 (by kernel_rfl) rfl #[.agg #[.int .i64 L.x0.f0, .int .i64 L.x0.f1, .int .i64 L.x0.f2, .slice A0 L.x0.f3.length c0, .int .i64 L.x0.f4]] (by rfl) rfl rfl (by simp only [List.map_toArray, List.map_cons, List.map_nil]; rfl) ?_
  with_reducible refine (link_Tick.calls k L.x0.f0 L.x0.f1 L.x0.f2 A0 c0 L.x0.f3 L.x0.f4 ss _ (Kd.Q_reads' HEV.out.h0).2.2 HCAP.out HT.out).mono ?_
  rintro e wt ⟨vt, rfl, ho, hb1⟩
  refine ⟨_, rfl, ?_⟩
  obtain ⟨A2, c2, rfl⟩ := Kd.R_slice ho
  have HE2 := Aside0.mk (HEV.out.fresh hb1 9)
  have HF2 : Aside0 (tagf f V.heap.size 9 ga = 9) := ⟨(tag_old (blk_lt BA.out)).trans HF9.out⟩
  have HR2 : Aside0 (Kd.string.R 9 wt b (fun k => tagf f V.heap.size 9 k = 9) (.slice A2 ss.length c2) ss) := ⟨Kd.R_lower (Kd.R_mono (Kd.R_bound ho) (fun k hk => by unfold tagf; rw [if_pos hk.2.1])) HS0.out⟩
  have BA2 := Aside0.mk (blk_below BA.out hb1)
  have HB2 := Aside0.mk (HBW.out.trans (hb1.mono HS0.out))
  have HS2 := Aside0.mk (Nat.le_trans HS0.out hb1.size)
  generalize tagf f V.heap.size 9 = f2 at HE2 HF2 HR2
  clear ho hb1 HEV HF9 BA HBW HS0
  refine hK.out _ _ ⟨((blk_cell BA2.out 1).trans rfl), ((HE2.out.cell 0).trans rfl), ((HE2.out.cell 1).trans rfl), ((HE2.out.cell 2).trans rfl), ((HE2.out.cell 3).trans rfl), ((HE2.out.cell 4).trans rfl)⟩ (fun hHeld => ?_)
  clear hK K
  refine norm_ (a' := ?_) ?_ ?_
  rotate_left
  · show Act.put _ (some 40) _ = _
    exact put_
  refine pure_ (i := 10) (N := some 41) (v := ?_) (a' := ?_) #[true, true, true, true, true, true, true, true, true, true, true, true] rfl rfl (by kernel_rfl) (fun _ _ _ h => h) (Or.inl ⟨by rfl, ?_⟩) ?_ ?_
  rotate_left
  · intro w'
    go_simp
    with_reducible rfl
  rotate_left
  · exact put_
  refine done_ (by kernel_rfl) ?_
  have HI0 : Aside0 (TickI b w wt g L 1 ga a A2 c2 ss 0) := ⟨⟨f2, ⟨_, _, _, _, _, _, _, HE2.out⟩, HF2.out, BA2.out, HR2.out, HB2.out, HS2.out⟩⟩
  clear HE2 HF2 BA2 HR2 HB2 HS2
  have hmax : ss.length ≤ 9223372036854775807 := by obtain ⟨_, _, _, _, hr, _⟩ := HI0.out; exact (Kd.R_reads' hr).2.2.2.1
  go_wp2
  go_loopw [42] (fun i wr => ∃ j : Nat, j ≤ ss.length ∧ i = .int .i64 j ∧ Aside0 (TickI b w wr g L 1 ga a A2 c2 ss j)) (fun i _ => ss.length - (intOf i).toNat)
  case atStart => exact ⟨0, Nat.zero_le _, rfl, HI0⟩
  case round =>
    clear HI0
    obtain ⟨j, hj, rfl, HI⟩ := hrel
    by_cases hj2 : j < ss.length
    · obtain ⟨f3, he3, hf3, hba3, hr3, hbw3, hs3⟩ := HI.out
      have c3 : decide ((j : Int) < (ss.length : Int)) = true := decide_eq_true (by omega)
      have d5 : (0 : Int) ≤ (j : Int) := by omega
      have d6 : (j : Int) < (ss.length : Int) := by omega
      obtain ⟨ad, ead, hcell⟩ := Kd.at_string (Kd.R_reads' hr3).2.2 (j : Int) (by omega) (by omega)
      cases ead
      have hs : rdOf ByteArray.empty ss (j : Int) = ss[j] := by
        unfold rdOf
        rw [Int.toNat_natCast, List.getD_eq_getElem?_getD, List.getElem?_eq_getElem hj2]
        rfl
      rw [hs] at hcell
      rw [Int.toNat_natCast] at hcell
      have b1 : wr.cell? ⟨ga, 1, none⟩ = some (.int .i64 a.f1) := (blk_cell hba3 1).trans rfl
      have z1 : (IntKind.u64.wrap a.f1).tmod 2 = 0 := HWHO.out
      have z2 : wrap64 0 = 0 := by unfold wrap64; omega
      have z3 : wrap64 (1 - 0) = 1 := by unfold wrap64; omega
      have z4 : wrap64 1 = 1 := by unfold wrap64; omega
      have HE3 := Aside0.mk he3
      have HS3 := Aside0.mk hs3
      have HX := Aside0.mk (And.intro hf3 (And.intro hba3 (And.intro hr3 hbw3)))
      have HJ := Aside0.mk (tickI_succ (L := L) (tt := 1) (ss := ss) hj2)
      clear he3 hs3 hf3 hba3 hr3 hbw3 hs HI
      generalize ss[j] = s at hcell HJ
      go_wp2_with fail
      (with_reducible refine (ends_send.callsF b g _ (⟨1, s, false⟩ : S65) f3 _ HE3.out HS3.out).mono ?_)
      rintro e w5 ⟨rfl, ⟨f5, he5, hk5⟩, hb5⟩
      have HI5 : Aside0 (TickI b w w5 g L 1 ga a (some ad) c2 ss (j + 1)) := ⟨⟨f5, by rw [HJ.out]; exact he5, (hk5 ga (blk_lt HX.out.2.1) HX.out.1).1, (hk5 ga (blk_lt HX.out.2.1) HX.out.1).2.trans HX.out.2.1, Kd.R_mono (Kd.R_move (Kd.R_bound HX.out.2.2.1) (fun k hk => (hk5 k hk.2.2.1 hk.1).2)) (fun k hk => (hk5 k hk.2.2.1 hk.1).1), HX.out.2.2.2.trans hb5, Nat.le_trans HS3.out hb5.size⟩⟩
      clear he5 hk5 hb5 HX HE3 HS3 HJ
      go_wp2
      go_roundw
      case rel => exact ⟨j + 1, by omega, by go_num, HI5⟩
      case measure => simp [intOf]; omega
    · obtain rfl : j = ss.length := by omega
      go_wp2
      refine bodyPost_ret (results_none rfl _ _ _) rfl ?_
      obtain ⟨f3, he3, _, _, _, hbw3, _⟩ := HI.out
      exact ⟨rfl, ⟨f3, by rw [← List.take_length (l := ss)]; exact he3⟩, hbw3⟩
set_option maxHeartbeats 4000000 in
set_option maxRecDepth 100000 in
theorem ends_act_t31.calls (k b g : Nat) (L : LS) (a : S55) (w : World) (h : Ends b w g L) (hb : b ≤ w.heap.size) (hK : actK a = 3) (ss : List ByteArray) (hwho : (IntKind.u64.wrap a.f1).tmod 2 = 1) (ht : link_Tick.f k L.x1.f0 L.x1.f1 L.x1.f2 L.x1.f3 L.x1.f4 = some ss) :
    Calls Try.prog 25 #[.pointer (some ⟨g, 0, none⟩), .agg #[.int .i64 a.f0, .int .i64 a.f1, .string a.f2]] w fun e w' => e = .returned (.tuple #[]) ∧ Ends b w' g (L.sendAll 0 ss) ∧ Below b w w' := by
  obtain ⟨f, v0, v1, vn, q0, q1, r0, r1, h⟩ := h
  have hba := below_alloc (Below.refl w.heap.size w) (.cells #[.int .i64 a.f0, .int .i64 a.f1, .string a.f2] 55 (0, 0))
  have BA := Aside0.mk (blk_new w (.cells #[.int .i64 a.f0, .int .i64 a.f1, .string a.f2] 55 (0, 0)))
  have HEV := Aside0.mk (h.fresh hba 9)
  have HF9 : Aside0 (tagf f w.heap.size 9 w.heap.size = 9) := ⟨by unfold tagf; rw [if_pos (Nat.le_refl _)]⟩
  generalize tagf f w.heap.size 9 = f at HEV HF9
  have HBW := Aside0.mk (hba.mono hb)
  have HS0 := Aside0.mk (Nat.le_trans hb hba.size)
  have a0 := blk_cell BA.out 0
  clear h hba hb
  go_enter Try.func25, Try.ntmps25
  go_upto_region 2 with (fail)
  rw [show wrap64 ((IntKind.u64.wrap a.f0).tmod 12) = 3 from hK]
  clear a0 hK
  generalize w.alloc (.cells #[.int .i64 a.f0, .int .i64 a.f1, .string a.f2] 55 (0, 0)) = W0 at BA HEV HBW HS0 ⊢
  generalize w.heap.size = ga at BA HF9 ⊢
  have a1 : W0.cell? ⟨ga, 1, none⟩ = some (.int .i64 a.f1) := (blk_cell BA.out 1).trans rfl
  have a2 : W0.cell? ⟨ga, 2, none⟩ = some (.string a.f2) := (blk_cell BA.out 2).trans rfl
  have HT := Aside0.mk ht
  have HWHO := Aside0.mk hwho
  clear ht
  obtain ⟨A0, c0, hv, hc, _⟩ := Kd.Q_reads HEV.out.h1
  subst hv
  have HCAP := Aside0.mk hc
  clear hc
  go_upto_region 10 with (fail)
  replace BA := Aside0.mk (blk_drew BA.out)
  replace HEV := Aside0.mk HEV.out.drew
  replace HBW := Aside0.mk HBW.out.drew
  replace HS0 : Aside0 (b ≤ (World.drew W0).heap.size) := HS0
  clear a1 a2
  refine start_ (n := 12) (S := fun w' => w'.cell? ⟨ga, 1, none⟩ = some (.int .i64 a.f1) ∧ w'.cell? ⟨g, 5, none⟩ = some (.int .i64 L.x1.f0) ∧ w'.cell? ⟨g, 6, none⟩ = some (.int .i64 L.x1.f1) ∧ w'.cell? ⟨g, 7, none⟩ = some (.int .i64 L.x1.f2) ∧ w'.cell? ⟨g, 8, none⟩ = some (.slice A0 L.x1.f3.length c0) ∧ w'.cell? ⟨g, 9, none⟩ = some (.int .i64 L.x1.f4)) (ds := []) #[false, false, false, false, false, false, false, false, false, false, false, false] (by kernel_rfl) rfl rfl ⟨((blk_cell BA.out 1).trans rfl), ((HEV.out.cell 5).trans rfl), ((HEV.out.cell 6).trans rfl), ((HEV.out.cell 7).trans rfl), ((HEV.out.cell 8).trans rfl), ((HEV.out.cell 9).trans rfl)⟩ (fun hHeld => ?_)
  generalize World.drew W0 = V at BA HEV HBW HS0 hHeld ⊢
  refine pure_ (i := 0) (N := some 31) (v := ?_) (a' := ?_) #[true, false, false, false, false, false, false, false, false, false, false, false] rfl rfl (by kernel_rfl) (fun _ _ _ h => h) (Or.inl ⟨by rfl, ?_⟩) ?_ ?_
  rotate_left
  · intro w'
    go_simp
    with_reducible rfl
  rotate_left
  · exact put_
  refine pure_ (i := 1) (N := some 32) (v := ?_) (a' := ?_) #[true, true, false, false, false, false, false, false, false, false, false, false] rfl rfl (by kernel_rfl) (fun _ _ _ h => h) (Or.inl ⟨by rfl, ?_⟩) ?_ ?_
  rotate_left
  · intro w'
    go_simp
    with_reducible rfl
  rotate_left
  · exact put_
  refine pure_ (i := 5) (N := some 36) (v := ?_) (a' := ?_) #[true, true, false, false, false, true, false, false, false, false, false, false] rfl rfl (by kernel_rfl) (fun _ _ _ h => h) (Or.inl ⟨by rfl, ?_⟩) ?_ ?_
  rotate_left
  · intro w'
    go_simp
    with_reducible rfl
  rotate_left
  · exact put_
  refine pure_ (i := 6) (N := some 37) (v := ?_) (a' := ?_) #[true, true, false, false, false, true, true, false, false, false, false, false] rfl rfl (by kernel_rfl) (fun _ _ _ h => h) (Or.inl ⟨by rfl, ?_⟩) ?_ ?_
  rotate_left
  · intro w'
    go_simp
    with_reducible rfl
  rotate_left
  · exact put_
  refine pure_ (i := 11) (N := some 42) (v := ?_) (a' := ?_) #[true, true, false, false, false, true, true, false, false, false, false, true] rfl rfl (by kernel_rfl) (fun _ _ _ h => h) (Or.inl ⟨by rfl, ?_⟩) ?_ ?_
  rotate_left
  · intro w'
    go_simp
    with_reducible rfl
  rotate_left
  · exact put_
  refine take_ (i := 2) (N := some 33) (v := ?_) (a' := ?_) #[true, true, true, false, false, true, true, false, false, false, false, true] rfl rfl (by kernel_rfl) (fun _ _ _ h => h) (Or.inl ⟨by rfl, ?_⟩) hHeld ?_ ?_
  rotate_left
  · rintro w' ⟨s0, s1, s2, s3, s4, s5⟩
    go_simp
    with_reducible rfl
  rotate_left
  · exact put_
  refine pure_ (i := 3) (N := some 34) (v := ?_) (a' := ?_) #[true, true, true, true, false, true, true, false, false, false, false, true] rfl rfl (by kernel_rfl) (fun _ _ _ h => h) (Or.inl ⟨by rfl, ?_⟩) ?_ ?_
  rotate_left
  · intro w'
    go_simp
    with_reducible rfl
  rotate_left
  · exact put_
  refine pure_ (i := 4) (N := some 35) (v := ?_) (a' := ?_) #[true, true, true, true, true, true, true, false, false, false, false, true] rfl rfl (by kernel_rfl) (fun _ _ _ h => h) (Or.inl ⟨by rfl, ?_⟩) ?_ ?_
  rotate_left
  · intro w'
    go_simp
    with_reducible rfl
  rotate_left
  · exact put_
  refine pure_ (i := 7) (N := some 38) (v := ?_) (a' := ?_) #[true, true, true, true, true, true, true, true, false, false, false, true] rfl rfl (by kernel_rfl) (fun _ _ _ h => h) (Or.inl ⟨by rfl, ?_⟩) ?_ ?_
  rotate_left
  · intro w'
    go_simp
    with_reducible rfl
  rotate_left
  · exact put_
  refine take_ (i := 8) (N := some 39) (v := ?_) (a' := ?_) #[true, true, true, true, true, true, true, true, true, false, false, true] rfl rfl (by kernel_rfl) (fun _ _ _ h => h) (Or.inl ⟨by rfl, ?_⟩) hHeld ?_ ?_
  rotate_left
  · rintro w' ⟨s0, s1, s2, s3, s4, s5⟩
    go_simp
    with_reducible rfl
  rotate_left
  · exact put_
  refine one_ (i := 9) (N := some 40) #[true, true, true, true, true, true, true, true, true, true, false, true] rfl rfl (by kernel_rfl) (by decide) (fun K hK => ?_)
  refine goes_ Try.func13 (by kernel_rfl) rfl #[.agg #[.int .i64 L.x1.f0, .int .i64 L.x1.f1, .int .i64 L.x1.f2, .slice A0 L.x1.f3.length c0, .int .i64 L.x1.f4]] (by rfl) rfl rfl (by simp only [List.map_toArray, List.map_cons, List.map_nil]; rfl) ?_
  with_reducible refine (link_Tick.calls k L.x1.f0 L.x1.f1 L.x1.f2 A0 c0 L.x1.f3 L.x1.f4 ss _ (Kd.Q_reads' HEV.out.h1).2.2 HCAP.out HT.out).mono ?_
  rintro e wt ⟨vt, rfl, ho, hb1⟩
  refine ⟨_, rfl, ?_⟩
  obtain ⟨A2, c2, rfl⟩ := Kd.R_slice ho
  have HE2 := Aside0.mk (HEV.out.fresh hb1 9)
  have HF2 : Aside0 (tagf f V.heap.size 9 ga = 9) := ⟨(tag_old (blk_lt BA.out)).trans HF9.out⟩
  have HR2 : Aside0 (Kd.string.R 9 wt b (fun k => tagf f V.heap.size 9 k = 9) (.slice A2 ss.length c2) ss) := ⟨Kd.R_lower (Kd.R_mono (Kd.R_bound ho) (fun k hk => by unfold tagf; rw [if_pos hk.2.1])) HS0.out⟩
  have BA2 := Aside0.mk (blk_below BA.out hb1)
  have HB2 := Aside0.mk (HBW.out.trans (hb1.mono HS0.out))
  have HS2 := Aside0.mk (Nat.le_trans HS0.out hb1.size)
  generalize tagf f V.heap.size 9 = f2 at HE2 HF2 HR2
  clear ho hb1 HEV HF9 BA HBW HS0
  refine hK.out _ _ ⟨((blk_cell BA2.out 1).trans rfl), ((HE2.out.cell 5).trans rfl), ((HE2.out.cell 6).trans rfl), ((HE2.out.cell 7).trans rfl), ((HE2.out.cell 8).trans rfl), ((HE2.out.cell 9).trans rfl)⟩ (fun hHeld => ?_)
  clear hK K
  refine norm_ (a' := ?_) ?_ ?_
  rotate_left
  · show Act.put _ (some 40) _ = _
    exact put_
  refine pure_ (i := 10) (N := some 41) (v := ?_) (a' := ?_) #[true, true, true, true, true, true, true, true, true, true, true, true] rfl rfl (by kernel_rfl) (fun _ _ _ h => h) (Or.inl ⟨by rfl, ?_⟩) ?_ ?_
  rotate_left
  · intro w'
    go_simp
    with_reducible rfl
  rotate_left
  · exact put_
  refine done_ (by kernel_rfl) ?_
  have HI0 : Aside0 (TickI b w wt g L 0 ga a A2 c2 ss 0) := ⟨⟨f2, ⟨_, _, _, _, _, _, _, HE2.out⟩, HF2.out, BA2.out, HR2.out, HB2.out, HS2.out⟩⟩
  clear HE2 HF2 BA2 HR2 HB2 HS2
  have hmax : ss.length ≤ 9223372036854775807 := by obtain ⟨_, _, _, _, hr, _⟩ := HI0.out; exact (Kd.R_reads' hr).2.2.2.1
  go_wp2
  go_loopw [42] (fun i wr => ∃ j : Nat, j ≤ ss.length ∧ i = .int .i64 j ∧ Aside0 (TickI b w wr g L 0 ga a A2 c2 ss j)) (fun i _ => ss.length - (intOf i).toNat)
  case atStart => exact ⟨0, Nat.zero_le _, rfl, HI0⟩
  case round =>
    clear HI0
    obtain ⟨j, hj, rfl, HI⟩ := hrel
    by_cases hj2 : j < ss.length
    · obtain ⟨f3, he3, hf3, hba3, hr3, hbw3, hs3⟩ := HI.out
      have c3 : decide ((j : Int) < (ss.length : Int)) = true := decide_eq_true (by omega)
      have d5 : (0 : Int) ≤ (j : Int) := by omega
      have d6 : (j : Int) < (ss.length : Int) := by omega
      obtain ⟨ad, ead, hcell⟩ := Kd.at_string (Kd.R_reads' hr3).2.2 (j : Int) (by omega) (by omega)
      cases ead
      have hs : rdOf ByteArray.empty ss (j : Int) = ss[j] := by
        unfold rdOf
        rw [Int.toNat_natCast, List.getD_eq_getElem?_getD, List.getElem?_eq_getElem hj2]
        rfl
      rw [hs] at hcell
      rw [Int.toNat_natCast] at hcell
      have b1 : wr.cell? ⟨ga, 1, none⟩ = some (.int .i64 a.f1) := (blk_cell hba3 1).trans rfl
      have z1 : (IntKind.u64.wrap a.f1).tmod 2 = 1 := HWHO.out
      have z2 : wrap64 1 = 1 := by unfold wrap64; omega
      have z3 : wrap64 (1 - 1) = 0 := by unfold wrap64; omega
      have z4 : wrap64 0 = 0 := by unfold wrap64; omega
      have HE3 := Aside0.mk he3
      have HS3 := Aside0.mk hs3
      have HX := Aside0.mk (And.intro hf3 (And.intro hba3 (And.intro hr3 hbw3)))
      have HJ := Aside0.mk (tickI_succ (L := L) (tt := 0) (ss := ss) hj2)
      clear he3 hs3 hf3 hba3 hr3 hbw3 hs HI
      generalize ss[j] = s at hcell HJ
      go_wp2_with fail
      (with_reducible refine (ends_send.callsF b g _ (⟨0, s, false⟩ : S65) f3 _ HE3.out HS3.out).mono ?_)
      rintro e w5 ⟨rfl, ⟨f5, he5, hk5⟩, hb5⟩
      have HI5 : Aside0 (TickI b w w5 g L 0 ga a (some ad) c2 ss (j + 1)) := ⟨⟨f5, by rw [HJ.out]; exact he5, (hk5 ga (blk_lt HX.out.2.1) HX.out.1).1, (hk5 ga (blk_lt HX.out.2.1) HX.out.1).2.trans HX.out.2.1, Kd.R_mono (Kd.R_move (Kd.R_bound HX.out.2.2.1) (fun k hk => (hk5 k hk.2.2.1 hk.1).2)) (fun k hk => (hk5 k hk.2.2.1 hk.1).1), HX.out.2.2.2.trans hb5, Nat.le_trans HS3.out hb5.size⟩⟩
      clear he5 hk5 hb5 HX HE3 HS3 HJ
      go_wp2
      go_roundw
      case rel => exact ⟨j + 1, by omega, by go_num, HI5⟩
      case measure => simp [intOf]; omega
    · obtain rfl : j = ss.length := by omega
      go_wp2
      refine bodyPost_ret (results_none rfl _ _ _) rfl ?_
      obtain ⟨f3, he3, _, _, _, hbw3, _⟩ := HI.out
      exact ⟨rfl, ⟨f3, by rw [← List.take_length (l := ss)]; exact he3⟩, hbw3⟩
set_option maxHeartbeats 4000000 in
set_option maxRecDepth 100000 in
theorem ends_act_t40.calls (k b g : Nat) (L : LS) (a : S55) (w : World) (h : Ends b w g L) (hb : b ≤ w.heap.size) (hK : actK a = 4) (ss : List ByteArray) (hwho : (IntKind.u64.wrap a.f1).tmod 2 = 0) (ht : link_Tick.f k L.x0.f0 L.x0.f1 L.x0.f2 L.x0.f3 L.x0.f4 = some ss) :
    Calls Try.prog 25 #[.pointer (some ⟨g, 0, none⟩), .agg #[.int .i64 a.f0, .int .i64 a.f1, .string a.f2]] w fun e w' => e = .returned (.tuple #[]) ∧ Ends b w' g (L.sendAll 1 ss) ∧ Below b w w' := by
  obtain ⟨f, v0, v1, vn, q0, q1, r0, r1, h⟩ := h
  have hba := below_alloc (Below.refl w.heap.size w) (.cells #[.int .i64 a.f0, .int .i64 a.f1, .string a.f2] 55 (0, 0))
  have BA := Aside0.mk (blk_new w (.cells #[.int .i64 a.f0, .int .i64 a.f1, .string a.f2] 55 (0, 0)))
  have HEV := Aside0.mk (h.fresh hba 9)
  have HF9 : Aside0 (tagf f w.heap.size 9 w.heap.size = 9) := ⟨by unfold tagf; rw [if_pos (Nat.le_refl _)]⟩
  generalize tagf f w.heap.size 9 = f at HEV HF9
  have HBW := Aside0.mk (hba.mono hb)
  have HS0 := Aside0.mk (Nat.le_trans hb hba.size)
  have a0 := blk_cell BA.out 0
  clear h hba hb
  go_enter Try.func25, Try.ntmps25
  go_upto_region 2 with (fail)
  rw [show wrap64 ((IntKind.u64.wrap a.f0).tmod 12) = 4 from hK]
  clear a0 hK
  generalize w.alloc (.cells #[.int .i64 a.f0, .int .i64 a.f1, .string a.f2] 55 (0, 0)) = W0 at BA HEV HBW HS0 ⊢
  generalize w.heap.size = ga at BA HF9 ⊢
  have a1 : W0.cell? ⟨ga, 1, none⟩ = some (.int .i64 a.f1) := (blk_cell BA.out 1).trans rfl
  have a2 : W0.cell? ⟨ga, 2, none⟩ = some (.string a.f2) := (blk_cell BA.out 2).trans rfl
  have HT := Aside0.mk ht
  have HWHO := Aside0.mk hwho
  clear ht
  obtain ⟨A0, c0, hv, hc, _⟩ := Kd.Q_reads HEV.out.h0
  subst hv
  have HCAP := Aside0.mk hc
  clear hc
  go_upto_region 10 with (fail)
  replace BA := Aside0.mk (blk_drew BA.out)
  replace HEV := Aside0.mk HEV.out.drew
  replace HBW := Aside0.mk HBW.out.drew
  replace HS0 : Aside0 (b ≤ (World.drew W0).heap.size) := HS0
  clear a1 a2
  refine start_ (n := 12) (S := fun w' => w'.cell? ⟨ga, 1, none⟩ = some (.int .i64 a.f1) ∧ w'.cell? ⟨g, 0, none⟩ = some (.int .i64 L.x0.f0) ∧ w'.cell? ⟨g, 1, none⟩ = some (.int .i64 L.x0.f1) ∧ w'.cell? ⟨g, 2, none⟩ = some (.int .i64 L.x0.f2) ∧ w'.cell? ⟨g, 3, none⟩ = some (.slice A0 L.x0.f3.length c0) ∧ w'.cell? ⟨g, 4, none⟩ = some (.int .i64 L.x0.f4)) (ds := []) #[false, false, false, false, false, false, false, false, false, false, false, false] (by kernel_rfl) rfl rfl ⟨((blk_cell BA.out 1).trans rfl), ((HEV.out.cell 0).trans rfl), ((HEV.out.cell 1).trans rfl), ((HEV.out.cell 2).trans rfl), ((HEV.out.cell 3).trans rfl), ((HEV.out.cell 4).trans rfl)⟩ (fun hHeld => ?_)
  generalize World.drew W0 = V at BA HEV HBW HS0 hHeld ⊢
  refine pure_ (i := 0) (N := some 31) (v := ?_) (a' := ?_) #[true, false, false, false, false, false, false, false, false, false, false, false] rfl rfl (by kernel_rfl) (fun _ _ _ h => h) (Or.inl ⟨by rfl, ?_⟩) ?_ ?_
  rotate_left
  · intro w'
    go_simp
    with_reducible rfl
  rotate_left
  · exact put_
  refine pure_ (i := 1) (N := some 32) (v := ?_) (a' := ?_) #[true, true, false, false, false, false, false, false, false, false, false, false] rfl rfl (by kernel_rfl) (fun _ _ _ h => h) (Or.inl ⟨by rfl, ?_⟩) ?_ ?_
  rotate_left
  · intro w'
    go_simp
    with_reducible rfl
  rotate_left
  · exact put_
  refine pure_ (i := 5) (N := some 36) (v := ?_) (a' := ?_) #[true, true, false, false, false, true, false, false, false, false, false, false] rfl rfl (by kernel_rfl) (fun _ _ _ h => h) (Or.inl ⟨by rfl, ?_⟩) ?_ ?_
  rotate_left
  · intro w'
    go_simp
    with_reducible rfl
  rotate_left
  · exact put_
  refine pure_ (i := 6) (N := some 37) (v := ?_) (a' := ?_) #[true, true, false, false, false, true, true, false, false, false, false, false] rfl rfl (by kernel_rfl) (fun _ _ _ h => h) (Or.inl ⟨by rfl, ?_⟩) ?_ ?_
  rotate_left
  · intro w'
    go_simp
    with_reducible rfl
  rotate_left
  · exact put_
  refine pure_ (i := 11) (N := some 42) (v := ?_) (a' := ?_) #[true, true, false, false, false, true, true, false, false, false, false, true] rfl rfl (by kernel_rfl) (fun _ _ _ h => h) (Or.inl ⟨by rfl, ?_⟩) ?_ ?_
  rotate_left
  · intro w'
    go_simp
    with_reducible rfl
  rotate_left
  · exact put_
  refine take_ (i := 2) (N := some 33) (v := ?_) (a' := ?_) #[true, true, true, false, false, true, true, false, false, false, false, true] rfl rfl (by kernel_rfl) (fun _ _ _ h => h) (Or.inl ⟨by rfl, ?_⟩) hHeld ?_ ?_
  rotate_left
  · rintro w' ⟨s0, s1, s2, s3, s4, s5⟩
    go_simp
    with_reducible rfl
  rotate_left
  · exact put_
  refine pure_ (i := 3) (N := some 34) (v := ?_) (a' := ?_) #[true, true, true, true, false, true, true, false, false, false, false, true] rfl rfl (by kernel_rfl) (fun _ _ _ h => h) (Or.inl ⟨by rfl, ?_⟩) ?_ ?_
  rotate_left
  · intro w'
    go_simp
    with_reducible rfl
  rotate_left
  · exact put_
  refine pure_ (i := 4) (N := some 35) (v := ?_) (a' := ?_) #[true, true, true, true, true, true, true, false, false, false, false, true] rfl rfl (by kernel_rfl) (fun _ _ _ h => h) (Or.inl ⟨by rfl, ?_⟩) ?_ ?_
  rotate_left
  · intro w'
    go_simp
    with_reducible rfl
  rotate_left
  · exact put_
  refine pure_ (i := 7) (N := some 38) (v := ?_) (a' := ?_) #[true, true, true, true, true, true, true, true, false, false, false, true] rfl rfl (by kernel_rfl) (fun _ _ _ h => h) (Or.inl ⟨by rfl, ?_⟩) ?_ ?_
  rotate_left
  · intro w'
    go_simp
    with_reducible rfl
  rotate_left
  · exact put_
  refine take_ (i := 8) (N := some 39) (v := ?_) (a' := ?_) #[true, true, true, true, true, true, true, true, true, false, false, true] rfl rfl (by kernel_rfl) (fun _ _ _ h => h) (Or.inl ⟨by rfl, ?_⟩) hHeld ?_ ?_
  rotate_left
  · rintro w' ⟨s0, s1, s2, s3, s4, s5⟩
    go_simp
    with_reducible rfl
  rotate_left
  · exact put_
  refine one_ (i := 9) (N := some 40) #[true, true, true, true, true, true, true, true, true, true, false, true] rfl rfl (by kernel_rfl) (by decide) (fun K hK => ?_)
  refine goes_ Try.func13 (by kernel_rfl) rfl #[.agg #[.int .i64 L.x0.f0, .int .i64 L.x0.f1, .int .i64 L.x0.f2, .slice A0 L.x0.f3.length c0, .int .i64 L.x0.f4]] (by rfl) rfl rfl (by simp only [List.map_toArray, List.map_cons, List.map_nil]; rfl) ?_
  with_reducible refine (link_Tick.calls k L.x0.f0 L.x0.f1 L.x0.f2 A0 c0 L.x0.f3 L.x0.f4 ss _ (Kd.Q_reads' HEV.out.h0).2.2 HCAP.out HT.out).mono ?_
  rintro e wt ⟨vt, rfl, ho, hb1⟩
  refine ⟨_, rfl, ?_⟩
  obtain ⟨A2, c2, rfl⟩ := Kd.R_slice ho
  have HE2 := Aside0.mk (HEV.out.fresh hb1 9)
  have HF2 : Aside0 (tagf f V.heap.size 9 ga = 9) := ⟨(tag_old (blk_lt BA.out)).trans HF9.out⟩
  have HR2 : Aside0 (Kd.string.R 9 wt b (fun k => tagf f V.heap.size 9 k = 9) (.slice A2 ss.length c2) ss) := ⟨Kd.R_lower (Kd.R_mono (Kd.R_bound ho) (fun k hk => by unfold tagf; rw [if_pos hk.2.1])) HS0.out⟩
  have BA2 := Aside0.mk (blk_below BA.out hb1)
  have HB2 := Aside0.mk (HBW.out.trans (hb1.mono HS0.out))
  have HS2 := Aside0.mk (Nat.le_trans HS0.out hb1.size)
  generalize tagf f V.heap.size 9 = f2 at HE2 HF2 HR2
  clear ho hb1 HEV HF9 BA HBW HS0
  refine hK.out _ _ ⟨((blk_cell BA2.out 1).trans rfl), ((HE2.out.cell 0).trans rfl), ((HE2.out.cell 1).trans rfl), ((HE2.out.cell 2).trans rfl), ((HE2.out.cell 3).trans rfl), ((HE2.out.cell 4).trans rfl)⟩ (fun hHeld => ?_)
  clear hK K
  refine norm_ (a' := ?_) ?_ ?_
  rotate_left
  · show Act.put _ (some 40) _ = _
    exact put_
  refine pure_ (i := 10) (N := some 41) (v := ?_) (a' := ?_) #[true, true, true, true, true, true, true, true, true, true, true, true] rfl rfl (by kernel_rfl) (fun _ _ _ h => h) (Or.inl ⟨by rfl, ?_⟩) ?_ ?_
  rotate_left
  · intro w'
    go_simp
    with_reducible rfl
  rotate_left
  · exact put_
  refine done_ (by kernel_rfl) ?_
  have HI0 : Aside0 (TickI b w wt g L 1 ga a A2 c2 ss 0) := ⟨⟨f2, ⟨_, _, _, _, _, _, _, HE2.out⟩, HF2.out, BA2.out, HR2.out, HB2.out, HS2.out⟩⟩
  clear HE2 HF2 BA2 HR2 HB2 HS2
  have hmax : ss.length ≤ 9223372036854775807 := by obtain ⟨_, _, _, _, hr, _⟩ := HI0.out; exact (Kd.R_reads' hr).2.2.2.1
  go_wp2
  go_loopw [42] (fun i wr => ∃ j : Nat, j ≤ ss.length ∧ i = .int .i64 j ∧ Aside0 (TickI b w wr g L 1 ga a A2 c2 ss j)) (fun i _ => ss.length - (intOf i).toNat)
  case atStart => exact ⟨0, Nat.zero_le _, rfl, HI0⟩
  case round =>
    clear HI0
    obtain ⟨j, hj, rfl, HI⟩ := hrel
    by_cases hj2 : j < ss.length
    · obtain ⟨f3, he3, hf3, hba3, hr3, hbw3, hs3⟩ := HI.out
      have c3 : decide ((j : Int) < (ss.length : Int)) = true := decide_eq_true (by omega)
      have d5 : (0 : Int) ≤ (j : Int) := by omega
      have d6 : (j : Int) < (ss.length : Int) := by omega
      obtain ⟨ad, ead, hcell⟩ := Kd.at_string (Kd.R_reads' hr3).2.2 (j : Int) (by omega) (by omega)
      cases ead
      have hs : rdOf ByteArray.empty ss (j : Int) = ss[j] := by
        unfold rdOf
        rw [Int.toNat_natCast, List.getD_eq_getElem?_getD, List.getElem?_eq_getElem hj2]
        rfl
      rw [hs] at hcell
      rw [Int.toNat_natCast] at hcell
      have b1 : wr.cell? ⟨ga, 1, none⟩ = some (.int .i64 a.f1) := (blk_cell hba3 1).trans rfl
      have z1 : (IntKind.u64.wrap a.f1).tmod 2 = 0 := HWHO.out
      have z2 : wrap64 0 = 0 := by unfold wrap64; omega
      have z3 : wrap64 (1 - 0) = 1 := by unfold wrap64; omega
      have z4 : wrap64 1 = 1 := by unfold wrap64; omega
      have HE3 := Aside0.mk he3
      have HS3 := Aside0.mk hs3
      have HX := Aside0.mk (And.intro hf3 (And.intro hba3 (And.intro hr3 hbw3)))
      have HJ := Aside0.mk (tickI_succ (L := L) (tt := 1) (ss := ss) hj2)
      clear he3 hs3 hf3 hba3 hr3 hbw3 hs HI
      generalize ss[j] = s at hcell HJ
      go_wp2_with fail
      (with_reducible refine (ends_send.callsF b g _ (⟨1, s, false⟩ : S65) f3 _ HE3.out HS3.out).mono ?_)
      rintro e w5 ⟨rfl, ⟨f5, he5, hk5⟩, hb5⟩
      have HI5 : Aside0 (TickI b w w5 g L 1 ga a (some ad) c2 ss (j + 1)) := ⟨⟨f5, by rw [HJ.out]; exact he5, (hk5 ga (blk_lt HX.out.2.1) HX.out.1).1, (hk5 ga (blk_lt HX.out.2.1) HX.out.1).2.trans HX.out.2.1, Kd.R_mono (Kd.R_move (Kd.R_bound HX.out.2.2.1) (fun k hk => (hk5 k hk.2.2.1 hk.1).2)) (fun k hk => (hk5 k hk.2.2.1 hk.1).1), HX.out.2.2.2.trans hb5, Nat.le_trans HS3.out hb5.size⟩⟩
      clear he5 hk5 hb5 HX HE3 HS3 HJ
      go_wp2
      go_roundw
      case rel => exact ⟨j + 1, by omega, by go_num, HI5⟩
      case measure => simp [intOf]; omega
    · obtain rfl : j = ss.length := by omega
      go_wp2
      refine bodyPost_ret (results_none rfl _ _ _) rfl ?_
      obtain ⟨f3, he3, _, _, _, hbw3, _⟩ := HI.out
      exact ⟨rfl, ⟨f3, by rw [← List.take_length (l := ss)]; exact he3⟩, hbw3⟩
set_option maxHeartbeats 4000000 in
set_option maxRecDepth 100000 in
theorem ends_act_t41.calls (k b g : Nat) (L : LS) (a : S55) (w : World) (h : Ends b w g L) (hb : b ≤ w.heap.size) (hK : actK a = 4) (ss : List ByteArray) (hwho : (IntKind.u64.wrap a.f1).tmod 2 = 1) (ht : link_Tick.f k L.x1.f0 L.x1.f1 L.x1.f2 L.x1.f3 L.x1.f4 = some ss) :
    Calls Try.prog 25 #[.pointer (some ⟨g, 0, none⟩), .agg #[.int .i64 a.f0, .int .i64 a.f1, .string a.f2]] w fun e w' => e = .returned (.tuple #[]) ∧ Ends b w' g (L.sendAll 0 ss) ∧ Below b w w' := by
  obtain ⟨f, v0, v1, vn, q0, q1, r0, r1, h⟩ := h
  have hba := below_alloc (Below.refl w.heap.size w) (.cells #[.int .i64 a.f0, .int .i64 a.f1, .string a.f2] 55 (0, 0))
  have BA := Aside0.mk (blk_new w (.cells #[.int .i64 a.f0, .int .i64 a.f1, .string a.f2] 55 (0, 0)))
  have HEV := Aside0.mk (h.fresh hba 9)
  have HF9 : Aside0 (tagf f w.heap.size 9 w.heap.size = 9) := ⟨by unfold tagf; rw [if_pos (Nat.le_refl _)]⟩
  generalize tagf f w.heap.size 9 = f at HEV HF9
  have HBW := Aside0.mk (hba.mono hb)
  have HS0 := Aside0.mk (Nat.le_trans hb hba.size)
  have a0 := blk_cell BA.out 0
  clear h hba hb
  go_enter Try.func25, Try.ntmps25
  go_upto_region 2 with (fail)
  rw [show wrap64 ((IntKind.u64.wrap a.f0).tmod 12) = 4 from hK]
  clear a0 hK
  generalize w.alloc (.cells #[.int .i64 a.f0, .int .i64 a.f1, .string a.f2] 55 (0, 0)) = W0 at BA HEV HBW HS0 ⊢
  generalize w.heap.size = ga at BA HF9 ⊢
  have a1 : W0.cell? ⟨ga, 1, none⟩ = some (.int .i64 a.f1) := (blk_cell BA.out 1).trans rfl
  have a2 : W0.cell? ⟨ga, 2, none⟩ = some (.string a.f2) := (blk_cell BA.out 2).trans rfl
  have HT := Aside0.mk ht
  have HWHO := Aside0.mk hwho
  clear ht
  obtain ⟨A0, c0, hv, hc, _⟩ := Kd.Q_reads HEV.out.h1
  subst hv
  have HCAP := Aside0.mk hc
  clear hc
  go_upto_region 10 with (fail)
  replace BA := Aside0.mk (blk_drew BA.out)
  replace HEV := Aside0.mk HEV.out.drew
  replace HBW := Aside0.mk HBW.out.drew
  replace HS0 : Aside0 (b ≤ (World.drew W0).heap.size) := HS0
  clear a1 a2
  refine start_ (n := 12) (S := fun w' => w'.cell? ⟨ga, 1, none⟩ = some (.int .i64 a.f1) ∧ w'.cell? ⟨g, 5, none⟩ = some (.int .i64 L.x1.f0) ∧ w'.cell? ⟨g, 6, none⟩ = some (.int .i64 L.x1.f1) ∧ w'.cell? ⟨g, 7, none⟩ = some (.int .i64 L.x1.f2) ∧ w'.cell? ⟨g, 8, none⟩ = some (.slice A0 L.x1.f3.length c0) ∧ w'.cell? ⟨g, 9, none⟩ = some (.int .i64 L.x1.f4)) (ds := []) #[false, false, false, false, false, false, false, false, false, false, false, false] (by kernel_rfl) rfl rfl ⟨((blk_cell BA.out 1).trans rfl), ((HEV.out.cell 5).trans rfl), ((HEV.out.cell 6).trans rfl), ((HEV.out.cell 7).trans rfl), ((HEV.out.cell 8).trans rfl), ((HEV.out.cell 9).trans rfl)⟩ (fun hHeld => ?_)
  generalize World.drew W0 = V at BA HEV HBW HS0 hHeld ⊢
  refine pure_ (i := 0) (N := some 31) (v := ?_) (a' := ?_) #[true, false, false, false, false, false, false, false, false, false, false, false] rfl rfl (by kernel_rfl) (fun _ _ _ h => h) (Or.inl ⟨by rfl, ?_⟩) ?_ ?_
  rotate_left
  · intro w'
    go_simp
    with_reducible rfl
  rotate_left
  · exact put_
  refine pure_ (i := 1) (N := some 32) (v := ?_) (a' := ?_) #[true, true, false, false, false, false, false, false, false, false, false, false] rfl rfl (by kernel_rfl) (fun _ _ _ h => h) (Or.inl ⟨by rfl, ?_⟩) ?_ ?_
  rotate_left
  · intro w'
    go_simp
    with_reducible rfl
  rotate_left
  · exact put_
  refine pure_ (i := 5) (N := some 36) (v := ?_) (a' := ?_) #[true, true, false, false, false, true, false, false, false, false, false, false] rfl rfl (by kernel_rfl) (fun _ _ _ h => h) (Or.inl ⟨by rfl, ?_⟩) ?_ ?_
  rotate_left
  · intro w'
    go_simp
    with_reducible rfl
  rotate_left
  · exact put_
  refine pure_ (i := 6) (N := some 37) (v := ?_) (a' := ?_) #[true, true, false, false, false, true, true, false, false, false, false, false] rfl rfl (by kernel_rfl) (fun _ _ _ h => h) (Or.inl ⟨by rfl, ?_⟩) ?_ ?_
  rotate_left
  · intro w'
    go_simp
    with_reducible rfl
  rotate_left
  · exact put_
  refine pure_ (i := 11) (N := some 42) (v := ?_) (a' := ?_) #[true, true, false, false, false, true, true, false, false, false, false, true] rfl rfl (by kernel_rfl) (fun _ _ _ h => h) (Or.inl ⟨by rfl, ?_⟩) ?_ ?_
  rotate_left
  · intro w'
    go_simp
    with_reducible rfl
  rotate_left
  · exact put_
  refine take_ (i := 2) (N := some 33) (v := ?_) (a' := ?_) #[true, true, true, false, false, true, true, false, false, false, false, true] rfl rfl (by kernel_rfl) (fun _ _ _ h => h) (Or.inl ⟨by rfl, ?_⟩) hHeld ?_ ?_
  rotate_left
  · rintro w' ⟨s0, s1, s2, s3, s4, s5⟩
    go_simp
    with_reducible rfl
  rotate_left
  · exact put_
  refine pure_ (i := 3) (N := some 34) (v := ?_) (a' := ?_) #[true, true, true, true, false, true, true, false, false, false, false, true] rfl rfl (by kernel_rfl) (fun _ _ _ h => h) (Or.inl ⟨by rfl, ?_⟩) ?_ ?_
  rotate_left
  · intro w'
    go_simp
    with_reducible rfl
  rotate_left
  · exact put_
  refine pure_ (i := 4) (N := some 35) (v := ?_) (a' := ?_) #[true, true, true, true, true, true, true, false, false, false, false, true] rfl rfl (by kernel_rfl) (fun _ _ _ h => h) (Or.inl ⟨by rfl, ?_⟩) ?_ ?_
  rotate_left
  · intro w'
    go_simp
    with_reducible rfl
  rotate_left
  · exact put_
  refine pure_ (i := 7) (N := some 38) (v := ?_) (a' := ?_) #[true, true, true, true, true, true, true, true, false, false, false, true] rfl rfl (by kernel_rfl) (fun _ _ _ h => h) (Or.inl ⟨by rfl, ?_⟩) ?_ ?_
  rotate_left
  · intro w'
    go_simp
    with_reducible rfl
  rotate_left
  · exact put_
  refine take_ (i := 8) (N := some 39) (v := ?_) (a' := ?_) #[true, true, true, true, true, true, true, true, true, false, false, true] rfl rfl (by kernel_rfl) (fun _ _ _ h => h) (Or.inl ⟨by rfl, ?_⟩) hHeld ?_ ?_
  rotate_left
  · rintro w' ⟨s0, s1, s2, s3, s4, s5⟩
    go_simp
    with_reducible rfl
  rotate_left
  · exact put_
  refine one_ (i := 9) (N := some 40) #[true, true, true, true, true, true, true, true, true, true, false, true] rfl rfl (by kernel_rfl) (by decide) (fun K hK => ?_)
  refine goes_ Try.func13 (by kernel_rfl) rfl #[.agg #[.int .i64 L.x1.f0, .int .i64 L.x1.f1, .int .i64 L.x1.f2, .slice A0 L.x1.f3.length c0, .int .i64 L.x1.f4]] (by rfl) rfl rfl (by simp only [List.map_toArray, List.map_cons, List.map_nil]; rfl) ?_
  with_reducible refine (link_Tick.calls k L.x1.f0 L.x1.f1 L.x1.f2 A0 c0 L.x1.f3 L.x1.f4 ss _ (Kd.Q_reads' HEV.out.h1).2.2 HCAP.out HT.out).mono ?_
  rintro e wt ⟨vt, rfl, ho, hb1⟩
  refine ⟨_, rfl, ?_⟩
  obtain ⟨A2, c2, rfl⟩ := Kd.R_slice ho
  have HE2 := Aside0.mk (HEV.out.fresh hb1 9)
  have HF2 : Aside0 (tagf f V.heap.size 9 ga = 9) := ⟨(tag_old (blk_lt BA.out)).trans HF9.out⟩
  have HR2 : Aside0 (Kd.string.R 9 wt b (fun k => tagf f V.heap.size 9 k = 9) (.slice A2 ss.length c2) ss) := ⟨Kd.R_lower (Kd.R_mono (Kd.R_bound ho) (fun k hk => by unfold tagf; rw [if_pos hk.2.1])) HS0.out⟩
  have BA2 := Aside0.mk (blk_below BA.out hb1)
  have HB2 := Aside0.mk (HBW.out.trans (hb1.mono HS0.out))
  have HS2 := Aside0.mk (Nat.le_trans HS0.out hb1.size)
  generalize tagf f V.heap.size 9 = f2 at HE2 HF2 HR2
  clear ho hb1 HEV HF9 BA HBW HS0
  refine hK.out _ _ ⟨((blk_cell BA2.out 1).trans rfl), ((HE2.out.cell 5).trans rfl), ((HE2.out.cell 6).trans rfl), ((HE2.out.cell 7).trans rfl), ((HE2.out.cell 8).trans rfl), ((HE2.out.cell 9).trans rfl)⟩ (fun hHeld => ?_)
  clear hK K
  refine norm_ (a' := ?_) ?_ ?_
  rotate_left
  · show Act.put _ (some 40) _ = _
    exact put_
  refine pure_ (i := 10) (N := some 41) (v := ?_) (a' := ?_) #[true, true, true, true, true, true, true, true, true, true, true, true] rfl rfl (by kernel_rfl) (fun _ _ _ h => h) (Or.inl ⟨by rfl, ?_⟩) ?_ ?_
  rotate_left
  · intro w'
    go_simp
    with_reducible rfl
  rotate_left
  · exact put_
  refine done_ (by kernel_rfl) ?_
  have HI0 : Aside0 (TickI b w wt g L 0 ga a A2 c2 ss 0) := ⟨⟨f2, ⟨_, _, _, _, _, _, _, HE2.out⟩, HF2.out, BA2.out, HR2.out, HB2.out, HS2.out⟩⟩
  clear HE2 HF2 BA2 HR2 HB2 HS2
  have hmax : ss.length ≤ 9223372036854775807 := by obtain ⟨_, _, _, _, hr, _⟩ := HI0.out; exact (Kd.R_reads' hr).2.2.2.1
  go_wp2
  go_loopw [42] (fun i wr => ∃ j : Nat, j ≤ ss.length ∧ i = .int .i64 j ∧ Aside0 (TickI b w wr g L 0 ga a A2 c2 ss j)) (fun i _ => ss.length - (intOf i).toNat)
  case atStart => exact ⟨0, Nat.zero_le _, rfl, HI0⟩
  case round =>
    clear HI0
    obtain ⟨j, hj, rfl, HI⟩ := hrel
    by_cases hj2 : j < ss.length
    · obtain ⟨f3, he3, hf3, hba3, hr3, hbw3, hs3⟩ := HI.out
      have c3 : decide ((j : Int) < (ss.length : Int)) = true := decide_eq_true (by omega)
      have d5 : (0 : Int) ≤ (j : Int) := by omega
      have d6 : (j : Int) < (ss.length : Int) := by omega
      obtain ⟨ad, ead, hcell⟩ := Kd.at_string (Kd.R_reads' hr3).2.2 (j : Int) (by omega) (by omega)
      cases ead
      have hs : rdOf ByteArray.empty ss (j : Int) = ss[j] := by
        unfold rdOf
        rw [Int.toNat_natCast, List.getD_eq_getElem?_getD, List.getElem?_eq_getElem hj2]
        rfl
      rw [hs] at hcell
      rw [Int.toNat_natCast] at hcell
      have b1 : wr.cell? ⟨ga, 1, none⟩ = some (.int .i64 a.f1) := (blk_cell hba3 1).trans rfl
      have z1 : (IntKind.u64.wrap a.f1).tmod 2 = 1 := HWHO.out
      have z2 : wrap64 1 = 1 := by unfold wrap64; omega
      have z3 : wrap64 (1 - 1) = 0 := by unfold wrap64; omega
      have z4 : wrap64 0 = 0 := by unfold wrap64; omega
      have HE3 := Aside0.mk he3
      have HS3 := Aside0.mk hs3
      have HX := Aside0.mk (And.intro hf3 (And.intro hba3 (And.intro hr3 hbw3)))
      have HJ := Aside0.mk (tickI_succ (L := L) (tt := 0) (ss := ss) hj2)
      clear he3 hs3 hf3 hba3 hr3 hbw3 hs HI
      generalize ss[j] = s at hcell HJ
      go_wp2_with fail
      (with_reducible refine (ends_send.callsF b g _ (⟨0, s, false⟩ : S65) f3 _ HE3.out HS3.out).mono ?_)
      rintro e w5 ⟨rfl, ⟨f5, he5, hk5⟩, hb5⟩
      have HI5 : Aside0 (TickI b w w5 g L 0 ga a (some ad) c2 ss (j + 1)) := ⟨⟨f5, by rw [HJ.out]; exact he5, (hk5 ga (blk_lt HX.out.2.1) HX.out.1).1, (hk5 ga (blk_lt HX.out.2.1) HX.out.1).2.trans HX.out.2.1, Kd.R_mono (Kd.R_move (Kd.R_bound HX.out.2.2.1) (fun k hk => (hk5 k hk.2.2.1 hk.1).2)) (fun k hk => (hk5 k hk.2.2.1 hk.1).1), HX.out.2.2.2.trans hb5, Nat.le_trans HS3.out hb5.size⟩⟩
      clear he5 hk5 hb5 HX HE3 HS3 HJ
      go_wp2
      go_roundw
      case rel => exact ⟨j + 1, by omega, by go_num, HI5⟩
      case measure => simp [intOf]; omega
    · obtain rfl : j = ss.length := by omega
      go_wp2
      refine bodyPost_ret (results_none rfl _ _ _) rfl ?_
      obtain ⟨f3, he3, _, _, _, hbw3, _⟩ := HI.out
      exact ⟨rfl, ⟨f3, by rw [← List.take_length (l := ss)]; exact he3⟩, hbw3⟩
end Go.Proofs.Ytgfmdfgibkkfaaa.P
