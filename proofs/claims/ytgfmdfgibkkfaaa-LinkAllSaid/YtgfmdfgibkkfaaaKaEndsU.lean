import Derived.Test.YtgfmdfgibkkfaaaKaPx0
import Derived.Test.YtgfmdfgibkkfaaaKaEnds
import Derived.Test.YtgfmdfgibkkfaaaKaConv
set_option linter.unusedVariables false
set_option linter.unusedSimpArgs false
namespace Go.Proofs.Ytgfmdfgibkkfaaa.P
open Go.RowKit Go.Proofs.Ytgfmdfgibkkfaaa.Conv Go.Proofs.YtgfmdfgibkkfaaaW.PrintWords Go.Proofs.YtgfmdfgibkkfaaaW.PrintLast Go.Proofs.YtgfmdfgibkkfaaaW.PrintMore
attribute [local go_sem] max2_int min2_int max_two min_two max_three min_three max_four min_four
def turnS (s : ByteArray) (m : Nat) : ByteArray := strOfNums ((bytesOf s).set m (Go.bits .xor .u8 (bt s (m : Int)) 1))
def LS.turn (L : LS) (i : Nat) (n : Nat) : LS := if (rd_T65 L.net i).f2 = true then L else { L with net := L.net.set i ⟨(rd_T65 L.net i).f0, turnS (rd_T65 L.net i).f1 (n % (rd_T65 L.net i).f1.size), true⟩ }
set_option maxHeartbeats 4000000 in
set_option maxRecDepth 100000 in
theorem ends_act_n11.calls (k b g : Nat) (L : LS) (a : S55) (w : World) (h : Ends b w g L) (hb : b ≤ w.heap.size) (hK : actK a = 11) (i : Nat) (hi : i < L.net.length) (hln : L.net.length ≤ 1000) (hpl : wrap64 ((IntKind.u64.wrap a.f1).tmod (L.net.length : Int)) = (i : Int)) (hs0 : 0 < (rd_T65 L.net i).f1.size) (hs1 : (rd_T65 L.net i).f1.size ≤ 100000) (ha2 : a.f2.size ≤ 100000) :
    Calls Try.prog 25 #[.pointer (some ⟨g, 0, none⟩), .agg #[.int .i64 a.f0, .int .i64 a.f1, .string a.f2]] w fun e w' => e = .returned (.tuple #[]) ∧ Ends b w' g (L.turn i a.f2.size) ∧ Below b w w' := by
  obtain ⟨f, v0, v1, vn, q0, q1, r0, r1, h⟩ := h
  have hba := below_alloc (Below.refl w.heap.size w) (.cells #[.int .i64 a.f0, .int .i64 a.f1, .string a.f2] 55 (0, 0))
  have BA := Aside0.mk (blk_new w (.cells #[.int .i64 a.f0, .int .i64 a.f1, .string a.f2] 55 (0, 0)))
  have HEV := Aside0.mk (h.fresh hba 9)
  have HF9 : Aside0 (tagf f w.heap.size 9 w.heap.size = 9) := ⟨by unfold tagf; rw [if_pos (Nat.le_refl _)]⟩
  generalize tagf f w.heap.size 9 = f at HEV HF9
  have HBW := Aside0.mk (hba.mono hb)
  have HS0 := Aside0.mk (Nat.le_trans hb hba.size)
  have a0 := blk_cell BA.out 0
  clear h hba hb
  go_enter Try.func25, Try.ntmps25
  go_upto_region 2 with (fail)
  rw [show wrap64 ((IntKind.u64.wrap a.f0).tmod 12) = 11 from hK]
  clear a0 hK
  generalize w.alloc (.cells #[.int .i64 a.f0, .int .i64 a.f1, .string a.f2] 55 (0, 0)) = W0 at BA HEV HBW HS0 ⊢
  generalize w.heap.size = ga at BA HF9 ⊢
  have a1 : W0.cell? ⟨ga, 1, none⟩ = some (.int .i64 a.f1) := (blk_cell BA.out 1).trans rfl
  have a2 : W0.cell? ⟨ga, 2, none⟩ = some (.string a.f2) := (blk_cell BA.out 2).trans rfl
  obtain ⟨An, cn, hvn, hnc, hC⟩ := Kd.R_reads HEV.out.hn
  subst hvn
  have hmax : L.net.length ≤ 9223372036854775807 := hC.2.1
  have HI := Aside0.mk hi
  have HP := Aside0.mk hpl
  have HCN := Aside0.mk hnc
  have n1 : ((L.net.length : Int) == 0) = false := beq_eq_false_iff_ne.2 (by omega)
  have n3 : (L.net = []) = False := eq_false (fun e => by rw [e] at hi; cases hi)
  have n2 : IntKind.u64.wrap (L.net.length : Int) = (L.net.length : Int) := by rw [IntKind.wrap_u64]; omega
  have x10 : W0.cell? ⟨g, 10, none⟩ = some (.slice An L.net.length cn) := (HEV.out.cell 10).trans rfl
  clear hC hnc
  go_upto_region 16 with (fail)
  replace BA := Aside0.mk (blk_drew BA.out)
  replace HEV := Aside0.mk HEV.out.drew
  replace HBW := Aside0.mk HBW.out.drew
  replace HS0 : Aside0 (b ≤ (World.drew W0).heap.size) := HS0
  clear a1 a2 x10
  refine start_ (n := 12) (S := fun w' => w'.cell? ⟨ga, 1, none⟩ = some (.int .i64 a.f1) ∧ w'.cell? ⟨g, 10, none⟩ = some (.slice An L.net.length cn)) (ds := []) #[false, false, false, false, false, false, false, false, false, false, false, false] (by kernel_rfl) rfl rfl ⟨((blk_cell BA.out 1).trans rfl), ((HEV.out.cell 10).trans rfl)⟩ (fun hHeld => ?_)
  generalize World.drew W0 = V at BA HEV HBW HS0 hHeld ⊢
  refine pure_ (i := 0) (N := some 63) (v := ?_) (a' := ?_) #[true, false, false, false, false, false, false, false, false, false, false, false] rfl rfl (by kernel_rfl) (fun _ _ _ h => h) (Or.inl ⟨by rfl, ?_⟩) ?_ ?_
  rotate_left
  · intro w'
    go_simp
    with_reducible rfl
  rotate_left
  · exact put_
  refine pure_ (i := 3) (N := some 66) (v := ?_) (a' := ?_) #[true, false, false, true, false, false, false, false, false, false, false, false] rfl rfl (by kernel_rfl) (fun _ _ _ h => h) (Or.inl ⟨by rfl, ?_⟩) ?_ ?_
  rotate_left
  · intro w'
    go_simp
    with_reducible rfl
  rotate_left
  · exact put_
  refine pure_ (i := 4) (N := some 67) (v := ?_) (a' := ?_) #[true, false, false, true, true, false, false, false, false, false, false, false] rfl rfl (by kernel_rfl) (fun _ _ _ h => h) (Or.inl ⟨by rfl, ?_⟩) ?_ ?_
  rotate_left
  · intro w'
    go_simp
    with_reducible rfl
  rotate_left
  · exact put_
  refine pure_ (i := 5) (N := some 68) (v := ?_) (a' := ?_) #[true, false, false, true, true, true, false, false, false, false, false, false] rfl rfl (by kernel_rfl) (fun _ _ _ h => h) (Or.inl ⟨by rfl, ?_⟩) ?_ ?_
  rotate_left
  · intro w'
    go_simp
    with_reducible rfl
  rotate_left
  · exact put_
  refine take_ (i := 1) (N := some 64) (v := ?_) (a' := ?_) #[true, true, false, true, true, true, false, false, false, false, false, false] rfl rfl (by kernel_rfl) (fun _ _ _ h => h) (Or.inl ⟨by rfl, ?_⟩) hHeld ?_ ?_
  rotate_left
  · rintro w' ⟨s0, s1⟩
    go_simp
    with_reducible rfl
  rotate_left
  · exact put_
  refine pure_ (i := 2) (N := some 65) (v := ?_) (a' := ?_) #[true, true, true, true, true, true, false, false, false, false, false, false] rfl rfl (by kernel_rfl) (fun _ _ _ h => h) (Or.inl ⟨by rfl, ?_⟩) ?_ ?_
  rotate_left
  · intro w'
    go_simp
    with_reducible rfl
  rotate_left
  · exact put_
  refine take_ (i := 6) (N := some 69) (v := ?_) (a' := ?_) #[true, true, true, true, true, true, true, false, false, false, false, false] rfl rfl (by kernel_rfl) (fun _ _ _ h => h) (Or.inl ⟨by rfl, ?_⟩) hHeld ?_ ?_
  rotate_left
  · rintro w' ⟨s0, s1⟩
    go_simp
    with_reducible rfl
  rotate_left
  · exact put_
  refine pure_ (i := 7) (N := some 70) (v := ?_) (a' := ?_) #[true, true, true, true, true, true, true, true, false, false, false, false] rfl rfl (by kernel_rfl) (fun _ _ _ h => h) (Or.inl ⟨by rfl, ?_⟩) ?_ ?_
  rotate_left
  · intro w'
    go_simp
    with_reducible rfl
  rotate_left
  · exact put_
  refine pure_ (i := 8) (N := some 71) (v := ?_) (a' := ?_) #[true, true, true, true, true, true, true, true, true, false, false, false] rfl rfl (by kernel_rfl) (fun _ _ _ h => h) (Or.inl ⟨by rfl, ?_⟩) ?_ ?_
  rotate_left
  · intro w'
    go_simp
    with_reducible rfl
  rotate_left
  · exact put_
  refine pure_ (i := 9) (N := some 72) (v := ?_) (a' := ?_) #[true, true, true, true, true, true, true, true, true, true, false, false] rfl rfl (by kernel_rfl) (fun _ _ _ h => h) (Or.inl ⟨by rfl, ?_⟩) ?_ ?_
  rotate_left
  · intro w'
    go_simp
    with_reducible rfl
  rotate_left
  · exact put_
  refine pure_ (i := 10) (N := some 73) (v := ?_) (a' := ?_) #[true, true, true, true, true, true, true, true, true, true, true, false] rfl rfl (by kernel_rfl) (fun _ _ _ h => h) (Or.inl ⟨by rfl, ?_⟩) ?_ ?_
  rotate_left
  · intro w'
    go_simp
    with_reducible rfl
  rotate_left
  · exact put_
  refine pure_ (i := 11) (N := some 7) (v := ?_) (a' := ?_) #[true, true, true, true, true, true, true, true, true, true, true, true] rfl rfl (by kernel_rfl) (fun _ _ _ h => h) (Or.inl ⟨by rfl, ?_⟩) ?_ ?_
  rotate_left
  · intro w'
    go_simp
    with_reducible rfl
  rotate_left
  · exact put_
  refine done_ (by kernel_rfl) ?_
  rw [show wrap64 ((IntKind.u64.wrap a.f1).tmod (L.net.length : Int)) = (i : Int) from HP.out]
  have hpos : 0 < L.net.length := by have := HI.out; omega
  obtain ⟨gn, cp0, hvf, hbgn, _⟩ := Kd.R_form HEV.out.hn hpos
  have HGN := Aside0.mk hbgn
  clear hbgn
  injection hvf with hAn _ _
  subst hAn
  obtain ⟨ad, hA, z0, z1, z2⟩ := at_T65 (Kd.R_reads' HEV.out.hn).2.2 (i : Int) (by omega) (by have := HI.out; omega)
  injection hA with hA
  subst hA
  rw [Int.toNat_natCast] at z0 z1 z2
  have zf : ∀ j, V.frozen? ⟨gn, j, none⟩ = false := fun j => by
    obtain ⟨cells, hcells⟩ := Kd.R_typed HEV.out.hn gn rfl
    exact blk_frozen hcells j
  have hgn : gn < V.heap.size := Kd.R_lt HEV.out.hn gn rfl
  rw [add_plain] at z0 z1 z2
  have y0 : V.cell? ⟨gn, i * 3, none⟩ = some (.int .i64 (rd_T65 L.net i).f0) := z0
  have y1 : V.cell? ⟨gn, i * 3 + 1, none⟩ = some (.string (rd_T65 L.net i).f1) := z1
  have y2 : V.cell? ⟨gn, i * 3 + 2, none⟩ = some (.bool (rd_T65 L.net i).f2) := z2
  clear z0 z1 z2 hpos
  obtain ⟨p, hp⟩ : ∃ p, p = rd_T65 L.net i := ⟨_, rfl⟩
  rw [← hp] at y0 y1 y2 hs0 hs1
  have HP2 := Aside0.mk hp
  clear hp
  have HSZ := Aside0.mk (And.intro hs0 hs1)
  have HA2 := Aside0.mk ha2
  have x10 : V.cell? ⟨g, 10, none⟩ = some (.slice (some ⟨gn, 0, none⟩) L.net.length cn) := (HEV.out.cell 10).trans rfl
  have d1 : (0 : Int) ≤ (i : Int) := by omega
  have d2 : (i : Int) < (L.net.length : Int) := by have := HI.out; omega
  have hconv := Lib.run_convert_string_bytes V 9 84 5 p.f1 Try.underlying9 Try.underlying84 Try.underlying5
  have HC := Aside0.mk (CRow.of_conv (e := 5) V b p.f1 HS0.out (by simp only [maxLen]; omega))
  have hbv : Below V.heap.size V (Lib.bytesWorld V 5 p.f1) := bytes_below (Below.refl V.heap.size V) (Nat.le_refl _) 5 p.f1
  have HEV1 := Aside0.mk (HEV.out.fresh hbv 9)
  have HG9 : Aside0 (tagf f V.heap.size 9 V.heap.size = 9) := ⟨by unfold tagf; rw [if_pos (Nat.le_refl _)]⟩
  have w0 := (hbv.cell (World.block_lt_of_cell? V _ y0)).trans y0
  have w1 := (hbv.cell (World.block_lt_of_cell? V _ y1)).trans y1
  have w2 := (hbv.cell (World.block_lt_of_cell? V _ y2)).trans y2
  have wf : ∀ j, (Lib.bytesWorld V 5 p.f1).frozen? ⟨gn, j, none⟩ = false := fun j => by
    obtain ⟨cells, hcells⟩ := Kd.R_typed HEV1.out.hn gn rfl
    exact blk_frozen hcells j
  have HBW1 := Aside0.mk (HBW.out.trans (hbv.mono HS0.out))
  have HS1 := Aside0.mk (Nat.le_trans HS0.out hbv.size)
  have HGB := Aside0.mk HS0.out
  have a2b : (Lib.bytesWorld V 5 p.f1).cell? ⟨ga, 2, none⟩ = some (.string a.f2) := (blk_cell (blk_below BA.out hbv) 2).trans rfl
  have x10b : (Lib.bytesWorld V 5 p.f1).cell? ⟨g, 10, none⟩ = some (.slice (some ⟨gn, 0, none⟩) L.net.length cn) := (HEV1.out.cell 10).trans rfl
  have x11 : (Lib.bytesWorld V 5 p.f1).cell? ⟨g, 10, none⟩ = some (.slice (some ⟨gn, 0, none⟩) L.net.length cn) := x10b
  go_upto_region 23 with (fail)
  clear hconv y0 y1 y2 zf x10 hbv
  generalize Lib.bytesWorld V 5 p.f1 = W1 at *
  generalize grownCap V p.f1.size 0 5 = cp at *
  generalize tagf f V.heap.size 9 = f1 at HEV1 HG9
  generalize V.heap.size = gb at *
  cases hbad : p.f2 with
  | true =>
    rw [hbad] at w2
    have HX : Aside0 (Ends b W1 g (L.turn i a.f2.size)) := ⟨by unfold LS.turn; rw [← HP2.out, if_pos hbad]; exact ⟨f1, _, _, _, _, _, _, _, HEV1.out⟩⟩
    go_wp2
    refine bodyPost_end (results_none rfl _ _ _) rfl ?_
    exact ⟨rfl, HX.out, HBW1.out⟩
  | false =>
    have HBD := Aside0.mk hbad
    rw [hbad] at w2
    clear hbad
    obtain ⟨m, hm⟩ : ∃ m, m = a.f2.size % p.f1.size := ⟨_, rfl⟩
    have hml : m < p.f1.size := by rw [hm]; exact Nat.mod_lt _ HSZ.out.1
    have g1 : ((a.f2.size : Nat) : Int).tmod ((p.f1.size : Nat) : Int) = (m : Int) := by rw [Int.tmod_eq_emod_of_nonneg (by omega), hm]; norm_cast
    have g2 : (p.f1.size = 0) = False := eq_false (by omega)
    have hcell := HC.out.cells.2.1 m _ (bytes_get p.f1 m hml)
    have hfz := HC.out.cells.2.2 m (by rw [bytesOf_length]; exact hml)
    have g3 : (0 : Int) ≤ (m : Int) := by omega
    have g4 : (m : Int) < (p.f1.size : Int) := by omega
    have HM := Aside0.mk hm
    clear hm
    go_upto_region 25 with (fail)
    have hset := HC.out.set m (Go.bits .xor .u8 (bt p.f1 (m : Int)) 1)
    have hcv := (hset.below (below_drew1 (Below.refl _ _))).text (P := Try.prog) Try.underlying84 Try.underlying5 Try.underlying9
    have hne : gn ≠ gb := fun e => by have h2 : f1 gn = 2 := HEV1.out.hn.1 gn rfl; rw [e, HG9.out] at h2; cases h2
    have hkp := (Kept.refl W1 (fun k => k = gb)).setCell (p := ⟨gb, m, none⟩) (.inl rfl) (.int .u8 (Go.bits .xor .u8 (bt p.f1 (m : Int)) 1))
    have q0 := cell_kept w0 hkp hne
    have q1 := cell_kept w1 hkp hne
    have q2 := cell_kept w2 hkp hne
    replace HEV := Aside0.mk (HEV1.out.box HG9.out m (.int .u8 (Go.bits .xor .u8 (bt p.f1 (m : Int)) 1))).drew
    have HBW3 := Aside0.mk (HBW1.out.setCell (p := ⟨gb, m, none⟩) HGB.out (.int .u8 (Go.bits .xor .u8 (bt p.f1 (m : Int)) 1))).drew
    clear HBW HEV1 HBW1 hset hkp hcell hfz wf w0 w1 w2 x10b x11 a2b
    have HCV := Aside0.mk hcv
    clear hcv
    generalize W1.setCell { block := gb, off := m } (Value.int IntKind.u8 (Go.bits BinOp.xor IntKind.u8 (bt p.f1 (m : Int)) 1)) = W3 at HEV HBW3 HCV q0 q1 q2 ⊢
    have q3 : ∀ j, (World.drew W3).frozen? ⟨gn, j, none⟩ = false := fun j => by
      obtain ⟨cells, hcells⟩ := Kd.R_typed HEV.out.hn gn rfl
      exact blk_frozen hcells j
    have Z3 : Aside0 ((World.drew W3).cell? ⟨gn, i * 3, none⟩ = some (.int .i64 p.f0) ∧ (World.drew W3).cell? ⟨gn, i * 3 + 1, none⟩ = some (.string p.f1) ∧ (World.drew W3).cell? ⟨gn, i * 3 + 2, none⟩ = some (.bool false) ∧ ∀ j, (World.drew W3).frozen? ⟨gn, j, none⟩ = false) := ⟨q0, q1, q2, q3⟩
    have HBW := HBW3
    clear q0 q1 q2 q3 HBW3
    refine start_ (n := 18) (S := fun w' => w'.cell? ⟨g, 10, none⟩ = some (.slice (some ⟨gn, 0, none⟩) L.net.length cn) ∧ w'.cell? ⟨gn, i * 3, none⟩ = some (.int .i64 p.f0) ∧ (Go.convert 84 9 (.slice (some ⟨gb, 0, none⟩) p.f1.size cp)).run Try.prog w' = .ok (.string (turnS p.f1 m)) w') (ds := [17]) #[false, false, false, false, false, false, false, false, false, false, false, false, false, false, false, false, false, false] (by kernel_rfl) rfl rfl ⟨((HEV.out.cell 10).trans rfl), Z3.out.1, HCV.out⟩ (fun hHeld => ?_)
    generalize World.drew W3 = V3 at HEV Z3 HCV HBW hHeld ⊢
    refine pure_ (i := 0) (N := some 122) (v := ?_) (a' := ?_) #[true, false, false, false, false, false, false, false, false, false, false, false, false, false, false, false, false, false] rfl rfl (by kernel_rfl) (fun _ _ _ h => h) (Or.inl ⟨by rfl, ?_⟩) ?_ ?_
    rotate_left
    · intro w'
      go_simp
      with_reducible rfl
    rotate_left
    · exact put_
    refine pure_ (i := 1) (N := some 123) (v := ?_) (a' := ?_) #[true, true, false, false, false, false, false, false, false, false, false, false, false, false, false, false, false, false] rfl rfl (by kernel_rfl) (fun _ _ _ h => h) (Or.inl ⟨by rfl, ?_⟩) ?_ ?_
    rotate_left
    · intro w'
      go_simp
      with_reducible rfl
    rotate_left
    · exact put_
    refine pure_ (i := 2) (N := some 124) (v := ?_) (a' := ?_) #[true, true, true, false, false, false, false, false, false, false, false, false, false, false, false, false, false, false] rfl rfl (by kernel_rfl) (fun _ _ _ h => h) (Or.inl ⟨by rfl, ?_⟩) ?_ ?_
    rotate_left
    · intro w'
      go_simp
      with_reducible rfl
    rotate_left
    · exact put_
    refine pure_ (i := 4) (N := some 126) (v := ?_) (a' := ?_) #[true, true, true, false, true, false, false, false, false, false, false, false, false, false, false, false, false, false] rfl rfl (by kernel_rfl) (fun _ _ _ h => h) (Or.inl ⟨by rfl, ?_⟩) ?_ ?_
    rotate_left
    · intro w'
      go_simp
      with_reducible rfl
    rotate_left
    · exact put_
    refine pure_ (i := 5) (N := some 127) (v := ?_) (a' := ?_) #[true, true, true, false, true, true, false, false, false, false, false, false, false, false, false, false, false, false] rfl rfl (by kernel_rfl) (fun _ _ _ h => h) (Or.inl ⟨by rfl, ?_⟩) ?_ ?_
    rotate_left
    · intro w'
      go_simp
      with_reducible rfl
    rotate_left
    · exact put_
    refine pure_ (i := 6) (N := some 128) (v := ?_) (a' := ?_) #[true, true, true, false, true, true, true, false, false, false, false, false, false, false, false, false, false, false] rfl rfl (by kernel_rfl) (fun _ _ _ h => h) (Or.inl ⟨by rfl, ?_⟩) ?_ ?_
    rotate_left
    · intro w'
      go_simp
      with_reducible rfl
    rotate_left
    · exact put_
    refine pure_ (i := 7) (N := some 129) (v := ?_) (a' := ?_) #[true, true, true, false, true, true, true, true, false, false, false, false, false, false, false, false, false, false] rfl rfl (by kernel_rfl) (fun _ _ _ h => h) (Or.inl ⟨by rfl, ?_⟩) ?_ ?_
    rotate_left
    · intro w'
      go_simp
      with_reducible rfl
    rotate_left
    · exact put_
    refine pure_ (i := 9) (N := some 131) (v := ?_) (a' := ?_) #[true, true, true, false, true, true, true, true, false, true, false, false, false, false, false, false, false, false] rfl rfl (by kernel_rfl) (fun _ _ _ h => h) (Or.inl ⟨by rfl, ?_⟩) ?_ ?_
    rotate_left
    · intro w'
      go_simp
      with_reducible rfl
    rotate_left
    · exact put_
    refine pure_ (i := 13) (N := some 135) (v := ?_) (a' := ?_) #[true, true, true, false, true, true, true, true, false, true, false, false, false, true, false, false, false, false] rfl rfl (by kernel_rfl) (fun _ _ _ h => h) (Or.inl ⟨by rfl, ?_⟩) ?_ ?_
    rotate_left
    · intro w'
      go_simp
      with_reducible rfl
    rotate_left
    · exact put_
    refine take_ (i := 3) (N := some 125) (v := ?_) (a' := ?_) #[true, true, true, true, true, true, true, true, false, true, false, false, false, true, false, false, false, false] rfl rfl (by kernel_rfl) (fun _ _ _ h => h) (Or.inl ⟨by rfl, ?_⟩) hHeld ?_ ?_
    rotate_left
    · rintro w' ⟨s0, s1, s2⟩
      go_simp
      with_reducible rfl
    rotate_left
    · exact put_
    refine take_ (i := 8) (N := some 130) (v := ?_) (a' := ?_) #[true, true, true, true, true, true, true, true, true, true, false, false, false, true, false, false, false, false] rfl rfl (by kernel_rfl) (fun _ _ _ h => h) (Or.inl ⟨by rfl, ?_⟩) hHeld ?_ ?_
    rotate_left
    · rintro w' ⟨s0, s1, s2⟩
      go_simp
      with_reducible rfl
    rotate_left
    · exact put_
    refine pure_ (i := 10) (N := some 132) (v := ?_) (a' := ?_) #[true, true, true, true, true, true, true, true, true, true, true, false, false, true, false, false, false, false] rfl rfl (by kernel_rfl) (fun _ _ _ h => h) (Or.inl ⟨by rfl, ?_⟩) ?_ ?_
    rotate_left
    · intro w'
      go_simp
      with_reducible rfl
    rotate_left
    · exact put_
    refine pure_ (i := 11) (N := some 133) (v := ?_) (a' := ?_) #[true, true, true, true, true, true, true, true, true, true, true, true, false, true, false, false, false, false] rfl rfl (by kernel_rfl) (fun _ _ _ h => h) (Or.inl ⟨by rfl, ?_⟩) ?_ ?_
    rotate_left
    · intro w'
      go_simp
      with_reducible rfl
    rotate_left
    · exact put_
    refine take_ (i := 12) (N := some 134) (v := ?_) (a' := ?_) #[true, true, true, true, true, true, true, true, true, true, true, true, true, true, false, false, false, false] rfl rfl (by kernel_rfl) (fun _ _ _ h => h) (Or.inl ⟨by rfl, ?_⟩) hHeld ?_ ?_
    rotate_left
    · rintro w' ⟨s0, s1, s2⟩
      go_simp
      with_reducible rfl
    rotate_left
    · exact put_
    refine take_ (i := 14) (N := some 136) (v := ?_) (a' := ?_) #[true, true, true, true, true, true, true, true, true, true, true, true, true, true, true, false, false, false] rfl rfl (by kernel_rfl) (fun _ _ _ h => h) (Or.inl ⟨by rfl, ?_⟩) hHeld ?_ ?_
    rotate_left
    · rintro w' ⟨s0, s1, s2⟩
      go_simp
      with_reducible rfl
    rotate_left
    · exact put_
    refine pure_ (i := 15) (N := some 137) (v := ?_) (a' := ?_) #[true, true, true, true, true, true, true, true, true, true, true, true, true, true, true, true, false, false] rfl rfl (by kernel_rfl) (fun _ _ _ h => h) (Or.inl ⟨by rfl, ?_⟩) ?_ ?_
    rotate_left
    · intro w'
      go_simp
      with_reducible rfl
    rotate_left
    · exact put_
    refine pure_ (i := 16) (N := some 138) (v := ?_) (a' := ?_) #[true, true, true, true, true, true, true, true, true, true, true, true, true, true, true, true, true, false] rfl rfl (by kernel_rfl) (fun _ _ _ h => h) (Or.inl ⟨by rfl, ?_⟩) ?_ ?_
    rotate_left
    · intro w'
      go_simp
      with_reducible rfl
    rotate_left
    · exact put_
    refine last_ (i := 17) (N := none) #[true, true, true, true, true, true, true, true, true, true, true, true, true, true, true, true, true, true] rfl rfl (by kernel_rfl) (by decide) (fun K hK => ?_)
    have a0 : V3.cell? ⟨gn, i * 3, none⟩ = some (.int .i64 p.f0) := Z3.out.1
    have a1 : V3.cell? ⟨gn, i * 3 + 1, none⟩ = some (.string p.f1) := Z3.out.2.1
    have a2 : V3.cell? ⟨gn, i * 3 + 2, none⟩ = some (.bool false) := Z3.out.2.2.1
    have b0 : ∀ j, V3.frozen? ⟨gn, j, none⟩ = false := Z3.out.2.2.2
    refine skip_ (w1 := ?_) (by rfl) rfl ?_ ?_
    rotate_left
    · go_simp
      rfl
    refine hK.out _ _ ?_
    clear hK K
    refine done_ (by kernel_rfl) ?_
    have HF := Aside0.mk (HEV.out.setPk HI.out ⟨p.f0, turnS p.f1 m, true⟩)
    have HBF := Aside0.mk (((HBW.out.setCell (p := ⟨gn, i * 3, none⟩) HGN.out (.int .i64 p.f0)).setCell (p := ⟨gn, i * 3 + 1, none⟩) HGN.out (.string (turnS p.f1 m))).setCell (p := ⟨gn, i * 3 + 2, none⟩) HGN.out (.bool true))
    go_wp2
    refine bodyPost_end (results_none rfl _ _ _) rfl ?_
    have hbf : ¬ (rd_T65 L.net i).f2 = true := by rw [← HP2.out, HBD.out]; decide
    refine ⟨rfl, ?_, HBF.out⟩
    unfold LS.turn
    rw [if_neg hbf, ← HP2.out, ← HM.out]
    exact ⟨f1, _, _, _, _, _, _, _, HF.out⟩
end Go.Proofs.Ytgfmdfgibkkfaaa.P
