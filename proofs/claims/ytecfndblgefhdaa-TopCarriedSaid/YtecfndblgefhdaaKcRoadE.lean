import Derived.Test.YtecfndblgefhdaaKcRoadC
set_option linter.unusedVariables false
set_option linter.unusedSimpArgs false
namespace Go.Proofs.Ytecfndblgefhdaa.P
open Go.RowKit Go.Proofs.YtecfndblgefhdaaW.PrintWords Go.Proofs.YtecfndblgefhdaaW.PrintLast Go.Proofs.YtecfndblgefhdaaW.PrintMore
attribute [local go_sem] max2_int min2_int max_two min_two max_three min_three max_four min_four
theorem qroade1_ {p : Prop} (h : p := by exact norm_ (by first | (simp only [putAll, Act.put, List.setIfInBounds_toArray, List.set_cons_zero, List.set_cons_succ]; done) | (simp [putAll, Act.put]; done)) (hCont (_, _, _, _) _ HC.out)) : p := h
theorem qroade0_ {p : Prop} (h : p := by exact ⟨⟨f4, he4, h9p, (fun _ e => z148_), (fun _ e => z148_), (fun _ _ e => z148_)⟩, blk_far BP3.out (fun e => by have h7 := he4.own; rw [← show gp = g from e, h9p] at h7; cases h7) _, (fun _ e => z148_), (fun _ e => z148_), HB3.out.setCell HE.out.low _, Nat.le_of_lt (Nat.lt_of_le_of_lt he4.low he4.lt), (fun _ e => z148_), (fun _ e => z148_)⟩) : p := h
def RS.gone (L : RS) (i : Nat) : RS := { L with net := L.net.take i ++ L.net.drop (i + 1) }
def RS.hearO (k : Nat) (L : RS) (R : link_Take.Res) : Option RS := if R.has = true then (seg_Feed.f k L.jn L.jl R.s).map (fun r => L.hear r.1 r.2.1 r.2.2.1 r.2.2.2.1) else some L
def RS.reply (L : RS) (tq : Int) (s : ByteArray) : RS := if s = (⟨#[]⟩ : ByteArray) then L else { L with net := L.net ++ [⟨tq, s⟩] }
set_option maxHeartbeats 4000000 in
set_option maxRecDepth 100000 in
theorem road_act_lost.calls (k b g : Nat) (L LL : RS) (vl : Value) (f : Nat → Nat) (n m : Int) (i : Nat) (ps : ByteArray) (tq : Int) (w : World) (h : RoadF b w g L vl f) (hb : b ≤ w.heap.size) (hn : 3 ≤ n) (hn9 : n ≤ 9) (hn8 : n = 8) (hi : i < L.net.length) (hln : L.net.length ≤ 1000) (hpl : wrap64 ((IntKind.u64.wrap m).tmod (L.net.length : Int)) = (i : Int)) (hp : rd_T93 L.net i = ⟨tq, ps⟩) (hLL : LL = if n < 9 then L.gone i else L) :
  Calls Try.prog 7 #[.pointer (some ⟨g, 0, none⟩), .int .i64 n, .int .i64 m] w fun e w' => e = .returned (.tuple #[]) ∧ (∃ f', RoadF b w' g LL vl f') ∧ Below b w w' := by
 obtain ⟨v0, v1, vn, vw, vj, vt, h⟩ := h
 obtain ⟨An, cn, hvn, hnc, hC⟩ := Kd.R_reads h.hn
 subst hvn
 have hmax : L.net.length ≤ 9223372036854775807 := hC.2.1
 obtain ⟨ad, hA, z0, z1⟩ := at_T93 hC (i : Int) z2_ z2_
 subst hA
 rw [Int.toNat_natCast] at z0 z1
 rw [hp] at z0 z1
 have HC : Aside0 (CI b w g L w.heap.size (⟨tq, ps⟩ : S93) 0 vl v0 v1 (.slice (some ad) L.net.length cn) vw vj vt none none none (w.alloc (.cells #[.int .i64 (tq), .string ps] 93 (0, 0)))) := ⟨CI.start h hb 0 ⟨tq, ps⟩⟩
 have HE := a0_ h
 have HCN := a0_ hnc
 have HLN := a0_ hln
 clear h hC hb hnc hln hp
 have n1 : (n == 0) = false := beq_eq_false_iff_ne.mpr z2_
 have n2 : decide (n < 3) = false := decide_eq_false z2_
 have n3 : ((L.net.length : Int) == 0) = false := beq_eq_false_iff_ne.2 z2_
 have n3' : (L.net = []) = False := eq_false (fun e => by rw [e] at hi; cases hi)
 have n4 : IntKind.u64.wrap (L.net.length : Int) = (L.net.length : Int) := by rw [IntKind.wrap_u64]; omega
 have x12 := HE.out.cell 12
 simp only [cellsR] at x12
 have HN8 := a0_ hn8
 clear hn8
 have d1 : (0 : Int) ≤ (i : Int) := by omega
 have d2 : (i : Int) < (L.net.length : Int) := by omega
 go_enter Try.func7, Try.ntmps7
 go_upto_if 66 with (fail)
 rw [hpl]
 clear x12 z0 z1 n1 n2 n3 n3' n4 HE hpl hi
 generalize w.alloc (.cells #[.int .i64 (tq), .string ps] 93 (0, 0)) = W0 at HC ⊢
 generalize w.heap.size = gp at HC ⊢
 go_cut [10, 67, 68, 69, 70, 71, 72, 73, 74, 75, 76, 77, 78, 79, 80, 81, 82, 83, 84, 85] (fun v10 v67 v68 v69 v70 v71 v72 v73 v74 v75 v76 v77 v78 v79 v80 v81 v82 v83 v84 v85 wc => ∃ vn', Aside0 (CI b w g LL gp (⟨tq, ps⟩ : S93) 0 vl v0 v1 vn' vw vj vt none none none wc))
 case first =>
  by_cases h9 : n < 9
  ·have n9 : decide (n < 9) = true := decide_eq_true h9
   rw [if_pos h9] at hLL
   have e0 : (i ≤ cn) = True := eq_true (by have := HCN.out; omega)
   have e1 : (0 ≤ wrap64 ((i : Int) + 1)) = True := eq_true z150_
   have e2 : (wrap64 ((i : Int) + 1) ≤ (L.net.length : Int)) = True := eq_true z150_
   have e3 : (wrap64 ((i : Int) + 1)).toNat = i + 1 := by unfold wrap64; omega
   go_upto_region 13 with (fail)
   obtain ⟨f2, hev, hfp, _⟩ := HC.out.drew.ev
   have HE := a0_ hev
   have HFP := a0_ hfp
   have BP := a0_ HC.out.drew.bp
   have HBW := a0_ HC.out.drew.hb
   have HSZ := a0_ HC.out.drew.hs
   clear hev hfp HC
   have hnc := HCN.out
   refine st_ 20 (S := fun w' => w'.cell? ⟨g, 12, none⟩ = some (.slice (some ad) L.net.length cn)) (ds := [16, 19]) ((HE.out.cell 12).trans rfl) (fun hHeld => ?_)
   generalize World.drew W0 = V at HE BP HBW HSZ hHeld ⊢
   refine pu_ 0 (some 67) rfl rfl ?_
   refine pu_ 1 (some 68) rfl rfl ?_
   refine pu_ 2 (some 69) rfl rfl ?_
   refine pu_ 3 (some 70) rfl rfl ?_
   refine pu_ 4 (some 71) rfl rfl ?_
   refine pu_ 6 (some 73) rfl rfl ?_
   refine pu_ 9 (some 76) rfl rfl ?_
   refine pu_ 10 (some 77) rfl rfl ?_
   refine pu_ 11 (some 78) rfl rfl ?_
   refine pu_ 13 (some 80) rfl rfl ?_
   refine pu_ 14 (some 81) rfl rfl ?_
   refine take_ (i := 5) (N := some 72) (v := ?_) (a' := ?_) #[true, true, true, true, true, true, true, false, false, true, true, true, false, true, true, false, false, false, false, false] rfl rfl z11_ (fun _ _ _ h => h) (Or.inl ⟨by rfl, ?_⟩) hHeld ?_ ?_
   rotate_left
   ·intro w' s0
    go_simp
    with_reducible rfl
   rotate_left
   ·exact put_
   refine pu_ 7 (some 74) rfl rfl ?_
   refine take_ (i := 12) (N := some 79) (v := ?_) (a' := ?_) #[true, true, true, true, true, true, true, true, false, true, true, true, true, true, true, false, false, false, false, false] rfl rfl z11_ (fun _ _ _ h => h) (Or.inl ⟨by rfl, ?_⟩) hHeld ?_ ?_
   rotate_left
   ·intro w' s0
    go_simp
    with_reducible rfl
   rotate_left
   ·exact put_
   refine pu_ 15 (some 82) rfl rfl ?_
   refine on_ 8 (some 75) rfl rfl (fun K hK => ?_)
   refine Kd.R_append_rows_step k93 (Rr := k93.K V) (w0 := w) b (by rfl) (.tmp 68) (.tmp 74) 33 93 (.agg #[.int .i64 0, .string ⟨#[]⟩]) 24 rfl Try.underlying33 infoWay rfl z17_ z2_ (.slice none 0 0) [] (L.net.take i) (some ad) i cn (fun k => V.heap.size ≤ k) (fun _ => False) rfl ?hx (Kd.R_nil _ _ _ _ _) ?aR ?aK (fun _ hk => hk.elim) (fun _ hk => hk) ?aB ?aS ?aL ?_
   (case hx => rfl)
   (case aR => exact z151_)
   (case aK => exact z152_)
   (case aB => exact z153_)
   (case aS => exact HSZ.out)
   (case aL => exact z154_)
   intro vm w2 ho hbb hg hat
   have hbv : Below V.heap.size V w2 := ⟨hg.1, hg.2, hg.3, hg.4, fun k hk => hg.5 k hk (by simp [Value.ownBlock])⟩
   rw [List.nil_append] at ho
   have HE2 := a0_ (HE.out.below hbv)
   have BP2 := a0_ (blk_below BP.out hbv)
   have HO2 := a0_ ho
   have HB2 := a0_ hbb
   have HSZ2 := a0_ (Nat.le_trans HSZ.out hbv.size)
   have HV2 := a0_ hbv
   clear ho hbb hg hat hbv
   refine hK.out _ _ ((HE2.out.cell 12).trans rfl) (fun hHeld => ?_)
   clear hK K
   refine norm_ (a' := ?_) ?_ ?_
   rotate_left
   ·show Act.put _ (some 75) _ = _
    exact put_
   refine la_ 16 (some 83) rfl rfl (fun K hK => ?_)
   refine Kd.R_append_rows_step k93 (Rr := k93.K w2) (w0 := w) b (by rfl) (.tmp 75) (.tmp 82) 33 93 (.agg #[.int .i64 0, .string ⟨#[]⟩]) 24 rfl Try.underlying33 infoWay rfl z17_ z2_ vm (L.net.take i) (L.net.drop (i + 1)) _ _ _ (fun k => V.heap.size ≤ k) (fun _ => False) rfl rfl HO2.out ?aR ?aK (fun _ hk => hk.elim) (fun _ hk => Nat.le_trans HV2.out.size hk) ?aB ?aS ?aL ?_
   (case aR => exact z155_)
   (case aK => exact z152_)
   (case aB => exact HB2.out)
   (case aS => exact HSZ2.out)
   (case aL => exact z156_)
   intro vz w3 ho hbb hg hat
   have hbv : Below V.heap.size V w3 := ⟨hg.1.trans HV2.out.os, hg.2.trans HV2.out.tape, hg.3.trans HV2.out.output, Nat.le_trans HV2.out.size hg.4, fun k hk => (hg.5 k (Nat.lt_of_lt_of_le hk HV2.out.size) (fun e => absurd (HO2.out.1 k e.symm) z2_)).trans (HV2.out.block k hk)⟩
   obtain ⟨A3, c3n, rfl⟩ := Kd.R_slice ho
   have HO3 := a0_ ho
   have HB3 := a0_ hbb
   have HV3 := a0_ hbv
   have HE3 := a0_ (HE.out.below hbv)
   have BP3 := a0_ (blk_below BP.out hbv)
   clear ho hbb hg hat hbv
   refine hK.out _ _ ?_
   clear hK K
   refine norm_ (a' := ?_) ?_ ?_
   rotate_left
   ·show Act.put _ (some 83) _ = _
    exact put_
   refine pu_ 17 (some 84) rfl rfl ?_
   refine pu_ 18 (some 85) rfl rfl ?_
   refine la_ 19 (none) rfl rfl (fun K hK => ?_)
   have hct : w3.cell? ⟨g, 12, none⟩ = some (.slice (some ad) L.net.length cn) := (HE3.out.cell 12).trans rfl
   have hft : w3.frozen? ⟨g, 12, none⟩ = false := HE3.out.frozen 12
   refine skip_ (w1 := ?_) (by rfl) rfl ?_ ?_
   rotate_left
   ·go_simp
    rfl
   refine hK.out _ _ ?_
   clear hK K
   refine done_ z11_ ?_
   obtain ⟨f4, hf4, he4⟩ := HE.out.new_net HV3.out HO3.out
   have HLE := a0_ (show (L.net.take i ++ L.net.drop (i + 1)).length = min i L.net.length + (L.net.length - (i + 1)) from z157_)
   rw [HLE.out] at he4
   have h9p : f4 gp = 9 := (hf4 gp (blk_lt BP.out)).trans HFP.out
   have HC4 : CI b w g LL gp (⟨tq, ps⟩ : S93) 0 vl v0 v1 (.slice A3 (min i L.net.length + (L.net.length - (i + 1))) c3n) vw vj vt none none none (w3.setCell ⟨g, 12, none⟩ (.slice A3 (min i L.net.length + (L.net.length - (i + 1))) c3n)) := by
    rw [hLL]
    exact qroade0_
   generalize (if cn = i + 1 then some ad else some (ad.add ((i + 1) * 2))) = AX
   go_wp2
   go_meet
   case rel => exact ⟨_, ⟨HC4⟩⟩
  ·have n9 : decide (n < 9) = false := decide_eq_false h9
   rw [if_neg h9] at hLL
   subst hLL
   go_wp2
   go_meet
   case rel => exact ⟨_, HC⟩
 case rest =>
  clear HC HCN HLN
  obtain ⟨vn', HC⟩ := hcut
  have n8 : (n == 8) = true := beq_iff_eq.mpr HN8.out
  go_wp2
  refine bodyPost_ret (results_none rfl _ _ _) rfl ?_
  obtain ⟨f5, he, _⟩ := HC.out.ev
  exact ⟨rfl, ⟨f5, _, _, _, _, _, _, he⟩, HC.out.hb⟩
set_option maxHeartbeats 8000000 in
set_option maxRecDepth 100000 in
theorem road_act_come0.calls (k b g : Nat) (L LL : RS) (vl : Value) (f : Nat → Nat) (n m : Int) (i : Nat) (ps : ByteArray) (R : link_Take.Res) (M : RS) (w : World) (h : RoadF b w g L vl f) (hb : b ≤ w.heap.size) (hn : 3 ≤ n) (hn9 : n ≤ 9) (hn8 : n ≠ 8) (hlt : LL.texts.length ≤ 1000) (hk : link_Take.f k LL.x0.f0 LL.x0.f1 LL.x0.f2 LL.x0.f3 LL.x0.f4 ps = some R) (hM : RS.hearO k { LL with x0 := (⟨LL.x0.f0, R.o, R.f, R.l, R.w⟩ : S26) } R = some M) (hlm : M.net.length ≤ 100000) (hi : i < L.net.length) (hln : L.net.length ≤ 1000) (hpl : wrap64 ((IntKind.u64.wrap m).tmod (L.net.length : Int)) = (i : Int)) (hp : rd_T93 L.net i = ⟨0, ps⟩) (hLL : LL = if n < 9 then L.gone i else L) :
  Calls Try.prog 7 #[.pointer (some ⟨g, 0, none⟩), .int .i64 n, .int .i64 m] w fun e w' => e = .returned (.tuple #[]) ∧ (∃ f', RoadF b w' g (M.reply 1 R.reply) vl f') ∧ Below b w w' := by
 have HK := a0_ hk
 have HM := a0_ hM
 have HTX := a0_ hlt
 have HLM := a0_ hlm
 clear hk hM hlt hlm
 obtain ⟨v0, v1, vn, vw, vj, vt, h⟩ := h
 obtain ⟨An, cn, hvn, hnc, hC⟩ := Kd.R_reads h.hn
 subst hvn
 have hmax : L.net.length ≤ 9223372036854775807 := hC.2.1
 obtain ⟨ad, hA, z0, z1⟩ := at_T93 hC (i : Int) z2_ z2_
 subst hA
 rw [Int.toNat_natCast] at z0 z1
 rw [hp] at z0 z1
 have HC : Aside0 (CI b w g L w.heap.size (⟨0, ps⟩ : S93) 0 vl v0 v1 (.slice (some ad) L.net.length cn) vw vj vt none none none (w.alloc (.cells #[.int .i64 (0), .string ps] 93 (0, 0)))) := ⟨CI.start h hb 0 ⟨0, ps⟩⟩
 have HE := a0_ h
 have HCN := a0_ hnc
 have HLN := a0_ hln
 clear h hC hb hnc hln hp
 have n1 : (n == 0) = false := beq_eq_false_iff_ne.mpr z2_
 have n2 : decide (n < 3) = false := decide_eq_false z2_
 have n3 : ((L.net.length : Int) == 0) = false := beq_eq_false_iff_ne.2 z2_
 have n3' : (L.net = []) = False := eq_false (fun e => by rw [e] at hi; cases hi)
 have n4 : IntKind.u64.wrap (L.net.length : Int) = (L.net.length : Int) := by rw [IntKind.wrap_u64]; omega
 have x12 := HE.out.cell 12
 simp only [cellsR] at x12
 have HN8 := a0_ hn8
 clear hn8
 have d1 : (0 : Int) ≤ (i : Int) := by omega
 have d2 : (i : Int) < (L.net.length : Int) := by omega
 go_enter Try.func7, Try.ntmps7
 go_upto_if 66 with (fail)
 rw [hpl]
 clear x12 z0 z1 n1 n2 n3 n3' n4 HE hpl hi
 generalize w.alloc (.cells #[.int .i64 (0), .string ps] 93 (0, 0)) = W0 at HC ⊢
 generalize w.heap.size = gp at HC ⊢
 go_cut [10, 67, 68, 69, 70, 71, 72, 73, 74, 75, 76, 77, 78, 79, 80, 81, 82, 83, 84, 85] (fun v10 v67 v68 v69 v70 v71 v72 v73 v74 v75 v76 v77 v78 v79 v80 v81 v82 v83 v84 v85 wc => ∃ vn', Aside0 (CI b w g LL gp (⟨0, ps⟩ : S93) 0 vl v0 v1 vn' vw vj vt none none none wc))
 case first =>
  by_cases h9 : n < 9
  ·have n9 : decide (n < 9) = true := decide_eq_true h9
   rw [if_pos h9] at hLL
   have e0 : (i ≤ cn) = True := eq_true (by have := HCN.out; omega)
   have e1 : (0 ≤ wrap64 ((i : Int) + 1)) = True := eq_true z150_
   have e2 : (wrap64 ((i : Int) + 1) ≤ (L.net.length : Int)) = True := eq_true z150_
   have e3 : (wrap64 ((i : Int) + 1)).toNat = i + 1 := by unfold wrap64; omega
   go_upto_region 13 with (fail)
   obtain ⟨f2, hev, hfp, _⟩ := HC.out.drew.ev
   have HE := a0_ hev
   have HFP := a0_ hfp
   have BP := a0_ HC.out.drew.bp
   have HBW := a0_ HC.out.drew.hb
   have HSZ := a0_ HC.out.drew.hs
   clear hev hfp HC
   have hnc := HCN.out
   refine st_ 20 (S := fun w' => w'.cell? ⟨g, 12, none⟩ = some (.slice (some ad) L.net.length cn)) (ds := [16, 19]) ((HE.out.cell 12).trans rfl) (fun hHeld => ?_)
   generalize World.drew W0 = V at HE BP HBW HSZ hHeld ⊢
   refine pu_ 0 (some 67) rfl rfl ?_
   refine pu_ 1 (some 68) rfl rfl ?_
   refine pu_ 2 (some 69) rfl rfl ?_
   refine pu_ 3 (some 70) rfl rfl ?_
   refine pu_ 4 (some 71) rfl rfl ?_
   refine pu_ 6 (some 73) rfl rfl ?_
   refine pu_ 9 (some 76) rfl rfl ?_
   refine pu_ 10 (some 77) rfl rfl ?_
   refine pu_ 11 (some 78) rfl rfl ?_
   refine pu_ 13 (some 80) rfl rfl ?_
   refine pu_ 14 (some 81) rfl rfl ?_
   refine take_ (i := 5) (N := some 72) (v := ?_) (a' := ?_) #[true, true, true, true, true, true, true, false, false, true, true, true, false, true, true, false, false, false, false, false] rfl rfl z11_ (fun _ _ _ h => h) (Or.inl ⟨by rfl, ?_⟩) hHeld ?_ ?_
   rotate_left
   ·intro w' s0
    go_simp
    with_reducible rfl
   rotate_left
   ·exact put_
   refine pu_ 7 (some 74) rfl rfl ?_
   refine take_ (i := 12) (N := some 79) (v := ?_) (a' := ?_) #[true, true, true, true, true, true, true, true, false, true, true, true, true, true, true, false, false, false, false, false] rfl rfl z11_ (fun _ _ _ h => h) (Or.inl ⟨by rfl, ?_⟩) hHeld ?_ ?_
   rotate_left
   ·intro w' s0
    go_simp
    with_reducible rfl
   rotate_left
   ·exact put_
   refine pu_ 15 (some 82) rfl rfl ?_
   refine on_ 8 (some 75) rfl rfl (fun K hK => ?_)
   refine Kd.R_append_rows_step k93 (Rr := k93.K V) (w0 := w) b (by rfl) (.tmp 68) (.tmp 74) 33 93 (.agg #[.int .i64 0, .string ⟨#[]⟩]) 24 rfl Try.underlying33 infoWay rfl z17_ z2_ (.slice none 0 0) [] (L.net.take i) (some ad) i cn (fun k => V.heap.size ≤ k) (fun _ => False) rfl ?hx (Kd.R_nil _ _ _ _ _) ?aR ?aK (fun _ hk => hk.elim) (fun _ hk => hk) ?aB ?aS ?aL ?_
   (case hx => rfl)
   (case aR => exact z151_)
   (case aK => exact z152_)
   (case aB => exact z153_)
   (case aS => exact HSZ.out)
   (case aL => exact z154_)
   intro vm w2 ho hbb hg hat
   have hbv : Below V.heap.size V w2 := ⟨hg.1, hg.2, hg.3, hg.4, fun k hk => hg.5 k hk (by simp [Value.ownBlock])⟩
   rw [List.nil_append] at ho
   have HE2 := a0_ (HE.out.below hbv)
   have BP2 := a0_ (blk_below BP.out hbv)
   have HO2 := a0_ ho
   have HB2 := a0_ hbb
   have HSZ2 := a0_ (Nat.le_trans HSZ.out hbv.size)
   have HV2 := a0_ hbv
   clear ho hbb hg hat hbv
   refine hK.out _ _ ((HE2.out.cell 12).trans rfl) (fun hHeld => ?_)
   clear hK K
   refine norm_ (a' := ?_) ?_ ?_
   rotate_left
   ·show Act.put _ (some 75) _ = _
    exact put_
   refine la_ 16 (some 83) rfl rfl (fun K hK => ?_)
   refine Kd.R_append_rows_step k93 (Rr := k93.K w2) (w0 := w) b (by rfl) (.tmp 75) (.tmp 82) 33 93 (.agg #[.int .i64 0, .string ⟨#[]⟩]) 24 rfl Try.underlying33 infoWay rfl z17_ z2_ vm (L.net.take i) (L.net.drop (i + 1)) _ _ _ (fun k => V.heap.size ≤ k) (fun _ => False) rfl rfl HO2.out ?aR ?aK (fun _ hk => hk.elim) (fun _ hk => Nat.le_trans HV2.out.size hk) ?aB ?aS ?aL ?_
   (case aR => exact z155_)
   (case aK => exact z152_)
   (case aB => exact HB2.out)
   (case aS => exact HSZ2.out)
   (case aL => exact z156_)
   intro vz w3 ho hbb hg hat
   have hbv : Below V.heap.size V w3 := ⟨hg.1.trans HV2.out.os, hg.2.trans HV2.out.tape, hg.3.trans HV2.out.output, Nat.le_trans HV2.out.size hg.4, fun k hk => (hg.5 k (Nat.lt_of_lt_of_le hk HV2.out.size) (fun e => absurd (HO2.out.1 k e.symm) z2_)).trans (HV2.out.block k hk)⟩
   obtain ⟨A3, c3n, rfl⟩ := Kd.R_slice ho
   have HO3 := a0_ ho
   have HB3 := a0_ hbb
   have HV3 := a0_ hbv
   have HE3 := a0_ (HE.out.below hbv)
   have BP3 := a0_ (blk_below BP.out hbv)
   clear ho hbb hg hat hbv
   refine hK.out _ _ ?_
   clear hK K
   refine norm_ (a' := ?_) ?_ ?_
   rotate_left
   ·show Act.put _ (some 83) _ = _
    exact put_
   refine pu_ 17 (some 84) rfl rfl ?_
   refine pu_ 18 (some 85) rfl rfl ?_
   refine la_ 19 (none) rfl rfl (fun K hK => ?_)
   have hct : w3.cell? ⟨g, 12, none⟩ = some (.slice (some ad) L.net.length cn) := (HE3.out.cell 12).trans rfl
   have hft : w3.frozen? ⟨g, 12, none⟩ = false := HE3.out.frozen 12
   refine skip_ (w1 := ?_) (by rfl) rfl ?_ ?_
   rotate_left
   ·go_simp
    rfl
   refine hK.out _ _ ?_
   clear hK K
   refine done_ z11_ ?_
   obtain ⟨f4, hf4, he4⟩ := HE.out.new_net HV3.out HO3.out
   have HLE := a0_ (show (L.net.take i ++ L.net.drop (i + 1)).length = min i L.net.length + (L.net.length - (i + 1)) from z157_)
   rw [HLE.out] at he4
   have h9p : f4 gp = 9 := (hf4 gp (blk_lt BP.out)).trans HFP.out
   have HC4 : CI b w g LL gp (⟨0, ps⟩ : S93) 0 vl v0 v1 (.slice A3 (min i L.net.length + (L.net.length - (i + 1))) c3n) vw vj vt none none none (w3.setCell ⟨g, 12, none⟩ (.slice A3 (min i L.net.length + (L.net.length - (i + 1))) c3n)) := by
    rw [hLL]
    exact qroade0_
   generalize (if cn = i + 1 then some ad else some (ad.add ((i + 1) * 2))) = AX
   go_wp2
   go_meet
   case rel => exact ⟨_, ⟨HC4⟩⟩
  ·have n9 : decide (n < 9) = false := decide_eq_false h9
   rw [if_neg h9] at hLL
   subst hLL
   go_wp2
   go_meet
   case rel => exact ⟨_, HC⟩
 case rest =>
  clear HC HCN HLN
  obtain ⟨vn', HC⟩ := hcut
  clear hLL
  have n8 : (n == 8) = false := beq_eq_false_iff_ne.mpr HN8.out
  obtain ⟨A0, c0, hv, hc, hq⟩ : ∃ A0 c0, v0 = .slice A0 LL.x0.f3.length c0 ∧ LL.x0.f3.length ≤ c0 ∧ True := by
   obtain ⟨f5, he, _⟩ := HC.out.ev
   obtain ⟨A0, c0, hv, hc, _⟩ := Kd.Q_reads he.h0
   exact ⟨A0, c0, hv, hc, trivial⟩
  subst hv
  clear hq
  have HCAP := a0_ hc
  have hrow : ∀ oy oc W, CI b w g LL gp (⟨0, ps⟩ : S93) 0 vl (.slice A0 LL.x0.f3.length c0) v1 vn' vw vj vt oy oc none W → Kd.C Kd.string W A0 LL.x0.f3.length LL.x0.f3 := fun oy oc W hc => by
   obtain ⟨f', he, _⟩ := hc.ev
   exact (Kd.Q_reads' he.h0).2.2
  have HROW := a0_ hrow
  clear hrow hc
  go_upto_region 15 with (fail)
  replace HC := a0_ HC.out.drew
  refine st_ 17 (S := fun w' => w'.cell? ⟨gp, 0, none⟩ = some (.int .i64 0) ∧ w'.cell? ⟨gp, 1, none⟩ = some (.string ps) ∧ w'.cell? ⟨g, 2, none⟩ = some (.int .i64 LL.x0.f0) ∧ w'.cell? ⟨g, 3, none⟩ = some (.int .i64 LL.x0.f1) ∧ w'.cell? ⟨g, 4, none⟩ = some (.int .i64 LL.x0.f2) ∧ w'.cell? ⟨g, 5, none⟩ = some (.slice A0 LL.x0.f3.length c0) ∧ w'.cell? ⟨g, 6, none⟩ = some (.int .i64 LL.x0.f4)) (ds := [15, 16]) ⟨((blk_cell HC.out.bp 0).trans rfl), ((blk_cell HC.out.bp 1).trans rfl), ((blk_cell HC.out.blk 2).trans rfl), ((blk_cell HC.out.blk 3).trans rfl), ((blk_cell HC.out.blk 4).trans rfl), ((blk_cell HC.out.blk 5).trans rfl), ((blk_cell HC.out.blk 6).trans rfl)⟩ (fun hHeld => ?_)
  generalize World.drew wc = V at HC hHeld ⊢
  refine pu_ 0 (some 89) rfl rfl ?_
  refine pu_ 1 (some 90) rfl rfl ?_
  refine pu_ 3 (some 92) rfl rfl ?_
  refine pu_ 4 (some 93) rfl rfl ?_
  refine pu_ 7 (some 96) rfl rfl ?_
  refine ta_ 2 (some 91) rfl rfl hHeld ?_
  refine pu_ 5 (some 94) rfl rfl ?_
  refine ta_ 6 (some 95) rfl rfl hHeld ?_
  refine ta_ 8 (some 97) rfl rfl hHeld ?_
  refine join_ (σ := Nat × Nat × Option Addr × Nat) 2 #[true, true, true, true, true, true, true, true, true, true, true, true, true, true, true, false, false] (fun s => [(98, .tuple #[.agg #[.int .i64 LL.x0.f0, .int .i64 R.o, .int .i64 R.f, .slice s.2.2.1 R.l.length s.2.2.2, .int .i64 R.w], .agg #[.string R.s, .bool R.has, .string R.reply, .bool R.anew]]), (88, .tuple #[.agg #[.int .i64 LL.x0.f0, .int .i64 R.o, .int .i64 R.f, .slice s.2.2.1 R.l.length s.2.2.2, .int .i64 R.w], .agg #[.string R.s, .bool R.has, .string R.reply, .bool R.anew]]), (99, .agg #[.int .i64 LL.x0.f0, .int .i64 R.o, .int .i64 R.f, .slice s.2.2.1 R.l.length s.2.2.2, .int .i64 R.w]), (100, .agg #[.string R.s, .bool R.has, .string R.reply, .bool R.anew]), (11, .pointer (some ⟨s.1, 0, none⟩)), (12, .pointer (some ⟨s.2.1, 0, none⟩))]) (fun s w' => CI b w g LL gp (⟨0, ps⟩ : S93) 0 vl (.slice A0 LL.x0.f3.length c0) v1 vn' vw vj vt (some s.1) (some s.2.1) (some (.slice s.2.2.1 R.l.length s.2.2.2, R.l)) w') ?_ ?_
  rotate_left
  ·intro hCont
   refine three_ (i := 9) (j := 13) (k := 14) (Ni := some 98) (Nj := some 11) (Nk := some 12) #[true, true, true, true, true, true, true, true, true, true, false, false, false, false, false, false, false] #[true, true, true, true, true, true, true, true, true, false, false, false, false, true, false, false, false] #[true, true, true, true, true, true, true, true, true, false, false, false, false, false, true, false, false] rfl rfl rfl rfl rfl rfl z11_ z17_ z17_ z17_ (fun K hK => ?_) (fun K hK => ?_) (fun K hK => ?_)
   ·skip
    refine goes_ Try.func31 z11_ rfl #[.agg #[.int .i64 LL.x0.f0, .int .i64 LL.x0.f1, .int .i64 LL.x0.f2, .slice A0 LL.x0.f3.length c0, .int .i64 LL.x0.f4], .string ps] (by rfl) rfl rfl z107_ ?_
    with_reducible refine (link_Take.walk k LL.x0.f0 LL.x0.f1 LL.x0.f2 A0 c0 LL.x0.f3 LL.x0.f4 ps R _ (HROW.out _ _ _ HC.out) HCAP.out HK.out).mono ?_
    rintro e wt ⟨vt_, rfl, hv, hb⟩
    refine ⟨_, rfl, ?_⟩
    obtain ⟨A1, c1, rfl, _, _⟩ := link_Take.Out_open hv (HROW.out _ _ _ HC.out) HCAP.out hb
    replace HC := a0_ (HC.out.call0 hb rfl hv)
    clear hv hb
    refine hK.out _ _ z158_ (fun hHeld => ?_)
    clear hK K
    refine norm_ (a' := ?_) ?_ ?_
    rotate_left
    ·show Act.put _ (some 98) _ = _
     exact put_
    refine pu_ 10 (some 88) rfl rfl ?_
    refine pu_ 11 (some 99) rfl rfl ?_
    refine pu_ 12 (some 100) rfl rfl ?_
    refine two_ (i := 13) (j := 14) (Ni := some 11) (Nj := some 12) #[true, true, true, true, true, true, true, true, true, true, true, true, true, true, false, false, false] #[true, true, true, true, true, true, true, true, true, true, true, true, true, false, true, false, false] rfl rfl rfl rfl z11_ z17_ z17_ (fun K hK => ?_) (fun K hK => ?_)
    ·skip
     refine value_ (w1 := ?_) (v := ?_) (by rfl) rfl ?_ ?_
     rotate_left 2
     ·go_simp
      constructor
      ·rfl
      ·rfl
     replace HC := a0_ HC.out.allocY
     refine hK.out _ _ z158_ (fun hHeld => ?_)
     clear hK K
     refine norm_ (a' := ?_) ?_ ?_
     rotate_left
     ·show Act.put _ (some 11) _ = _
      exact put_
     refine on_ 14 (some 12) rfl rfl (fun K hK => ?_)
     refine value_ (w1 := ?_) (v := ?_) (by rfl) rfl ?_ ?_
     rotate_left 2
     ·go_simp
      constructor
      ·rfl
      ·rfl
     replace HC := a0_ HC.out.allocC
     refine hK.out _ _ z158_ (fun hHeld => ?_)
     clear hK K
     refine norm_ (a' := ?_) ?_ ?_
     rotate_left
     ·show Act.put _ (some 12) _ = _
      exact put_
     exact qroade1_
    ·skip
     refine value_ (w1 := ?_) (v := ?_) (by rfl) rfl ?_ ?_
     rotate_left 2
     ·go_simp
      constructor
      ·rfl
      ·rfl
     replace HC := a0_ HC.out.allocC
     refine hK.out _ _ z158_ (fun hHeld => ?_)
     clear hK K
     refine norm_ (a' := ?_) ?_ ?_
     rotate_left
     ·show Act.put _ (some 12) _ = _
      exact put_
     refine on_ 13 (some 11) rfl rfl (fun K hK => ?_)
     refine value_ (w1 := ?_) (v := ?_) (by rfl) rfl ?_ ?_
     rotate_left 2
     ·go_simp
      constructor
      ·rfl
      ·rfl
     replace HC := a0_ HC.out.allocY
     refine hK.out _ _ z158_ (fun hHeld => ?_)
     clear hK K
     refine norm_ (a' := ?_) ?_ ?_
     rotate_left
     ·show Act.put _ (some 11) _ = _
      exact put_
     exact qroade1_
   ·skip
    refine value_ (w1 := ?_) (v := ?_) (by rfl) rfl ?_ ?_
    rotate_left 2
    ·go_simp
     constructor
     ·rfl
     ·rfl
    replace HC := a0_ HC.out.allocY
    refine hK.out _ _ z158_ (fun hHeld => ?_)
    clear hK K
    refine norm_ (a' := ?_) ?_ ?_
    rotate_left
    ·show Act.put _ (some 11) _ = _
     exact put_
    refine two_ (i := 9) (j := 14) (Ni := some 98) (Nj := some 12) #[true, true, true, true, true, true, true, true, true, true, false, false, false, true, false, false, false] #[true, true, true, true, true, true, true, true, true, false, false, false, false, true, true, false, false] rfl rfl rfl rfl z11_ z17_ z17_ (fun K hK => ?_) (fun K hK => ?_)
    ·skip
     refine goes_ Try.func31 z11_ rfl #[.agg #[.int .i64 LL.x0.f0, .int .i64 LL.x0.f1, .int .i64 LL.x0.f2, .slice A0 LL.x0.f3.length c0, .int .i64 LL.x0.f4], .string ps] (by rfl) rfl rfl z107_ ?_
     with_reducible refine (link_Take.walk k LL.x0.f0 LL.x0.f1 LL.x0.f2 A0 c0 LL.x0.f3 LL.x0.f4 ps R _ (HROW.out _ _ _ HC.out) HCAP.out HK.out).mono ?_
     rintro e wt ⟨vt_, rfl, hv, hb⟩
     refine ⟨_, rfl, ?_⟩
     obtain ⟨A1, c1, rfl, _, _⟩ := link_Take.Out_open hv (HROW.out _ _ _ HC.out) HCAP.out hb
     replace HC := a0_ (HC.out.call0 hb rfl hv)
     clear hv hb
     refine hK.out _ _ z158_ (fun hHeld => ?_)
     clear hK K
     refine norm_ (a' := ?_) ?_ ?_
     rotate_left
     ·show Act.put _ (some 98) _ = _
      exact put_
     refine pu_ 10 (some 88) rfl rfl ?_
     refine pu_ 11 (some 99) rfl rfl ?_
     refine pu_ 12 (some 100) rfl rfl ?_
     refine on_ 14 (some 12) rfl rfl (fun K hK => ?_)
     refine value_ (w1 := ?_) (v := ?_) (by rfl) rfl ?_ ?_
     rotate_left 2
     ·go_simp
      constructor
      ·rfl
      ·rfl
     replace HC := a0_ HC.out.allocC
     refine hK.out _ _ z158_ (fun hHeld => ?_)
     clear hK K
     refine norm_ (a' := ?_) ?_ ?_
     rotate_left
     ·show Act.put _ (some 12) _ = _
      exact put_
     exact qroade1_
    ·skip
     refine value_ (w1 := ?_) (v := ?_) (by rfl) rfl ?_ ?_
     rotate_left 2
     ·go_simp
      constructor
      ·rfl
      ·rfl
     replace HC := a0_ HC.out.allocC
     refine hK.out _ _ z158_ (fun hHeld => ?_)
     clear hK K
     refine norm_ (a' := ?_) ?_ ?_
     rotate_left
     ·show Act.put _ (some 12) _ = _
      exact put_
     refine on_ 9 (some 98) rfl rfl (fun K hK => ?_)
     refine goes_ Try.func31 z11_ rfl #[.agg #[.int .i64 LL.x0.f0, .int .i64 LL.x0.f1, .int .i64 LL.x0.f2, .slice A0 LL.x0.f3.length c0, .int .i64 LL.x0.f4], .string ps] (by rfl) rfl rfl z107_ ?_
     with_reducible refine (link_Take.walk k LL.x0.f0 LL.x0.f1 LL.x0.f2 A0 c0 LL.x0.f3 LL.x0.f4 ps R _ (HROW.out _ _ _ HC.out) HCAP.out HK.out).mono ?_
     rintro e wt ⟨vt_, rfl, hv, hb⟩
     refine ⟨_, rfl, ?_⟩
     obtain ⟨A1, c1, rfl, _, _⟩ := link_Take.Out_open hv (HROW.out _ _ _ HC.out) HCAP.out hb
     replace HC := a0_ (HC.out.call0 hb rfl hv)
     clear hv hb
     refine hK.out _ _ z158_ (fun hHeld => ?_)
     clear hK K
     refine norm_ (a' := ?_) ?_ ?_
     rotate_left
     ·show Act.put _ (some 98) _ = _
      exact put_
     refine pu_ 10 (some 88) rfl rfl ?_
     refine pu_ 11 (some 99) rfl rfl ?_
     refine pu_ 12 (some 100) rfl rfl ?_
     exact qroade1_
   ·skip
    refine value_ (w1 := ?_) (v := ?_) (by rfl) rfl ?_ ?_
    rotate_left 2
    ·go_simp
     constructor
     ·rfl
     ·rfl
    replace HC := a0_ HC.out.allocC
    refine hK.out _ _ z158_ (fun hHeld => ?_)
    clear hK K
    refine norm_ (a' := ?_) ?_ ?_
    rotate_left
    ·show Act.put _ (some 12) _ = _
     exact put_
    refine two_ (i := 9) (j := 13) (Ni := some 98) (Nj := some 11) #[true, true, true, true, true, true, true, true, true, true, false, false, false, false, true, false, false] #[true, true, true, true, true, true, true, true, true, false, false, false, false, true, true, false, false] rfl rfl rfl rfl z11_ z17_ z17_ (fun K hK => ?_) (fun K hK => ?_)
    ·skip
     refine goes_ Try.func31 z11_ rfl #[.agg #[.int .i64 LL.x0.f0, .int .i64 LL.x0.f1, .int .i64 LL.x0.f2, .slice A0 LL.x0.f3.length c0, .int .i64 LL.x0.f4], .string ps] (by rfl) rfl rfl z107_ ?_
     with_reducible refine (link_Take.walk k LL.x0.f0 LL.x0.f1 LL.x0.f2 A0 c0 LL.x0.f3 LL.x0.f4 ps R _ (HROW.out _ _ _ HC.out) HCAP.out HK.out).mono ?_
     rintro e wt ⟨vt_, rfl, hv, hb⟩
     refine ⟨_, rfl, ?_⟩
     obtain ⟨A1, c1, rfl, _, _⟩ := link_Take.Out_open hv (HROW.out _ _ _ HC.out) HCAP.out hb
     replace HC := a0_ (HC.out.call0 hb rfl hv)
     clear hv hb
     refine hK.out _ _ z158_ (fun hHeld => ?_)
     clear hK K
     refine norm_ (a' := ?_) ?_ ?_
     rotate_left
     ·show Act.put _ (some 98) _ = _
      exact put_
     refine pu_ 10 (some 88) rfl rfl ?_
     refine pu_ 11 (some 99) rfl rfl ?_
     refine pu_ 12 (some 100) rfl rfl ?_
     refine on_ 13 (some 11) rfl rfl (fun K hK => ?_)
     refine value_ (w1 := ?_) (v := ?_) (by rfl) rfl ?_ ?_
     rotate_left 2
     ·go_simp
      constructor
      ·rfl
      ·rfl
     replace HC := a0_ HC.out.allocY
     refine hK.out _ _ z158_ (fun hHeld => ?_)
     clear hK K
     refine norm_ (a' := ?_) ?_ ?_
     rotate_left
     ·show Act.put _ (some 11) _ = _
      exact put_
     exact qroade1_
    ·skip
     refine value_ (w1 := ?_) (v := ?_) (by rfl) rfl ?_ ?_
     rotate_left 2
     ·go_simp
      constructor
      ·rfl
      ·rfl
     replace HC := a0_ HC.out.allocY
     refine hK.out _ _ z158_ (fun hHeld => ?_)
     clear hK K
     refine norm_ (a' := ?_) ?_ ?_
     rotate_left
     ·show Act.put _ (some 11) _ = _
      exact put_
     refine on_ 9 (some 98) rfl rfl (fun K hK => ?_)
     refine goes_ Try.func31 z11_ rfl #[.agg #[.int .i64 LL.x0.f0, .int .i64 LL.x0.f1, .int .i64 LL.x0.f2, .slice A0 LL.x0.f3.length c0, .int .i64 LL.x0.f4], .string ps] (by rfl) rfl rfl z107_ ?_
     with_reducible refine (link_Take.walk k LL.x0.f0 LL.x0.f1 LL.x0.f2 A0 c0 LL.x0.f3 LL.x0.f4 ps R _ (HROW.out _ _ _ HC.out) HCAP.out HK.out).mono ?_
     rintro e wt ⟨vt_, rfl, hv, hb⟩
     refine ⟨_, rfl, ?_⟩
     obtain ⟨A1, c1, rfl, _, _⟩ := link_Take.Out_open hv (HROW.out _ _ _ HC.out) HCAP.out hb
     replace HC := a0_ (HC.out.call0 hb rfl hv)
     clear hv hb
     refine hK.out _ _ z158_ (fun hHeld => ?_)
     clear hK K
     refine norm_ (a' := ?_) ?_ ?_
     rotate_left
     ·show Act.put _ (some 98) _ = _
      exact put_
     refine pu_ 10 (some 88) rfl rfl ?_
     refine pu_ 11 (some 99) rfl rfl ?_
     refine pu_ 12 (some 100) rfl rfl ?_
     exact qroade1_
  rintro ⟨gy, gc, A1, c1⟩ w4 hci
  have HC4 := a0_ hci
  clear hci
  have hHeld : w4.cell? ⟨gp, 0, none⟩ = some (.int .i64 0) ∧ w4.cell? ⟨gp, 1, none⟩ = some (.string ps) ∧ w4.cell? ⟨g, 2, none⟩ = some (.int .i64 LL.x0.f0) ∧ w4.cell? ⟨g, 3, none⟩ = some (.int .i64 LL.x0.f1) ∧ w4.cell? ⟨g, 4, none⟩ = some (.int .i64 LL.x0.f2) ∧ w4.cell? ⟨g, 5, none⟩ = some (.slice A0 LL.x0.f3.length c0) ∧ w4.cell? ⟨g, 6, none⟩ = some (.int .i64 LL.x0.f4) := ⟨((blk_cell HC4.out.bp 0).trans rfl), ((blk_cell HC4.out.bp 1).trans rfl), ((blk_cell HC4.out.blk 2).trans rfl), ((blk_cell HC4.out.blk 3).trans rfl), ((blk_cell HC4.out.blk 4).trans rfl), ((blk_cell HC4.out.blk 5).trans rfl), ((blk_cell HC4.out.blk 6).trans rfl)⟩
  refine norm_ (a' := ?_) ?_ ?_
  rotate_left
  ·simp only [putAll, Act.put, List.setIfInBounds_toArray, List.set_cons_zero, List.set_cons_succ]
   rfl
  refine la_ 15 (none) rfl rfl (fun K hK => ?_)
  have HD := a0_ (DI.of HC4.out (HC4.out.ly _ rfl) (HC4.out.lc _ rfl))
  clear HC4 HC
  have a0 : w4.cell? ⟨gy, 0, none⟩ = some (.int .i64 0) := (blk_cell HD.out.ye 0).trans rfl
  have a1 : w4.cell? ⟨gy, 1, none⟩ = some (.int .i64 0) := (blk_cell HD.out.ye 1).trans rfl
  have a2 : w4.cell? ⟨gy, 2, none⟩ = some (.int .i64 0) := (blk_cell HD.out.ye 2).trans rfl
  have a3 : w4.cell? ⟨gy, 3, none⟩ = some (.slice none 0 0) := (blk_cell HD.out.ye 3).trans rfl
  have a4 : w4.cell? ⟨gy, 4, none⟩ = some (.int .i64 0) := (blk_cell HD.out.ye 4).trans rfl
  have b0 : w4.frozen? ⟨gy, 0, none⟩ = false := blk_frozen HD.out.ye 0
  have b1 : w4.frozen? ⟨gy, 1, none⟩ = false := blk_frozen HD.out.ye 1
  have b2 : w4.frozen? ⟨gy, 2, none⟩ = false := blk_frozen HD.out.ye 2
  have b3 : w4.frozen? ⟨gy, 3, none⟩ = false := blk_frozen HD.out.ye 3
  have b4 : w4.frozen? ⟨gy, 4, none⟩ = false := blk_frozen HD.out.ye 4
  refine skip_ (w1 := ?_) (by rfl) rfl ?_ ?_
  rotate_left
  ·go_simp
   rfl
  refine hK.out _ _ ?_
  clear hK K
  refine la_ 16 (none) rfl rfl (fun K hK => ?_)
  clear a0 a1 a2 a3 a4 b0 b1 b2 b3 b4
  replace HD := a0_ (((((HD.out.setY z17_ 0 (.int .i64 LL.x0.f0) rfl).setY z17_ 1 (.int .i64 R.o) rfl).setY z17_ 2 (.int .i64 R.f) rfl).setY z17_ 3 (.slice A1 R.l.length c1) rfl).setY z17_ 4 (.int .i64 R.w) rfl)
  generalize (((((w4.setCell { block := gy, off := 0 } (Value.int .i64 LL.x0.f0)).setCell { block := gy, off := 1 } (Value.int .i64 R.o)).setCell { block := gy, off := 2 } (Value.int .i64 R.f)).setCell { block := gy, off := 3 } (Value.slice A1 R.l.length c1)).setCell { block := gy, off := 4 } (Value.int .i64 R.w)) = w5 at HD ⊢
  have a0 : w5.cell? ⟨gc, 0, none⟩ = some (.string ⟨#[]⟩) := (blk_cell HD.out.ce 0).trans rfl
  have a1 : w5.cell? ⟨gc, 1, none⟩ = some (.bool false) := (blk_cell HD.out.ce 1).trans rfl
  have a2 : w5.cell? ⟨gc, 2, none⟩ = some (.string ⟨#[]⟩) := (blk_cell HD.out.ce 2).trans rfl
  have a3 : w5.cell? ⟨gc, 3, none⟩ = some (.bool false) := (blk_cell HD.out.ce 3).trans rfl
  have b0 : w5.frozen? ⟨gc, 0, none⟩ = false := blk_frozen HD.out.ce 0
  have b1 : w5.frozen? ⟨gc, 1, none⟩ = false := blk_frozen HD.out.ce 1
  have b2 : w5.frozen? ⟨gc, 2, none⟩ = false := blk_frozen HD.out.ce 2
  have b3 : w5.frozen? ⟨gc, 3, none⟩ = false := blk_frozen HD.out.ce 3
  refine skip_ (w1 := ?_) (by rfl) rfl ?_ ?_
  rotate_left
  ·go_simp
   rfl
  refine hK.out _ _ ?_
  clear hK K
  refine done_ z11_ ?_
  clear a0 a1 a2 a3 b0 b1 b2 b3
  replace HD := a0_ ((((HD.out.setC z17_ 0 (.string R.s) rfl).setC z17_ 1 (.bool R.has) rfl).setC z17_ 2 (.string R.reply) rfl).setC z17_ 3 (.bool R.anew) rfl)
  generalize ((((w5.setCell { block := gc, off := 0 } (Value.string R.s)).setCell { block := gc, off := 1 } (Value.bool R.has)).setCell { block := gc, off := 2 } (Value.string R.reply)).setCell { block := gc, off := 3 } (Value.bool R.anew)) = w6 at HD ⊢
  go_upto_region 16 with (fail)
  replace HD := a0_ HD.out.drew
  refine st_ 8 (S := fun w' => w'.cell? ⟨gp, 0, none⟩ = some (.int .i64 0) ∧ w'.cell? ⟨gy, 0, none⟩ = some (.int .i64 LL.x0.f0) ∧ w'.cell? ⟨gy, 1, none⟩ = some (.int .i64 R.o) ∧ w'.cell? ⟨gy, 2, none⟩ = some (.int .i64 R.f) ∧ w'.cell? ⟨gy, 3, none⟩ = some (.slice A1 R.l.length c1) ∧ w'.cell? ⟨gy, 4, none⟩ = some (.int .i64 R.w)) (ds := [7]) ⟨((blk_cell HD.out.bp 0).trans rfl), ((blk_cell HD.out.ye 0).trans rfl), ((blk_cell HD.out.ye 1).trans rfl), ((blk_cell HD.out.ye 2).trans rfl), ((blk_cell HD.out.ye 3).trans rfl), ((blk_cell HD.out.ye 4).trans rfl)⟩ (fun hHeld => ?_)
  generalize World.drew w6 = V at HD hHeld ⊢
  refine pu_ 0 (some 101) rfl rfl ?_
  refine pu_ 1 (some 102) rfl rfl ?_
  refine pu_ 4 (some 105) rfl rfl ?_
  refine pu_ 5 (some 106) rfl rfl ?_
  refine ta_ 2 (some 103) rfl rfl hHeld ?_
  refine ta_ 3 (some 104) rfl rfl hHeld ?_
  refine pu_ 6 (some 107) rfl rfl ?_
  refine la_ 7 (none) rfl rfl (fun K hK => ?_)
  have a0 : V.cell? ⟨g, 2, none⟩ = some (.int .i64 LL.x0.f0) := (blk_cell HD.out.blk 2).trans rfl
  have a1 : V.cell? ⟨g, 3, none⟩ = some (.int .i64 LL.x0.f1) := (blk_cell HD.out.blk 3).trans rfl
  have a2 : V.cell? ⟨g, 4, none⟩ = some (.int .i64 LL.x0.f2) := (blk_cell HD.out.blk 4).trans rfl
  have a3 : V.cell? ⟨g, 5, none⟩ = some (.slice A0 LL.x0.f3.length c0) := (blk_cell HD.out.blk 5).trans rfl
  have a4 : V.cell? ⟨g, 6, none⟩ = some (.int .i64 LL.x0.f4) := (blk_cell HD.out.blk 6).trans rfl
  have b0 : V.frozen? ⟨g, 2, none⟩ = false := blk_frozen HD.out.blk 2
  have b1 : V.frozen? ⟨g, 3, none⟩ = false := blk_frozen HD.out.blk 3
  have b2 : V.frozen? ⟨g, 4, none⟩ = false := blk_frozen HD.out.blk 4
  have b3 : V.frozen? ⟨g, 5, none⟩ = false := blk_frozen HD.out.blk 5
  have b4 : V.frozen? ⟨g, 6, none⟩ = false := blk_frozen HD.out.blk 6
  refine skip_ (w1 := ?_) (by rfl) rfl ?_ ?_
  rotate_left
  ·go_simp
   rfl
  refine hK.out _ _ ?_
  clear hK K
  refine done_ z11_ ?_
  clear a0 a1 a2 a3 a4 b0 b1 b2 b3 b4
  replace HD := a0_ (HD.out.setX0 (⟨LL.x0.f0, R.o, R.f, R.l, R.w⟩ : S26) rfl)
  generalize (((((V.setCell { block := g, off := 2 } (Value.int .i64 LL.x0.f0)).setCell { block := g, off := 3 } (Value.int .i64 R.o)).setCell { block := g, off := 4 } (Value.int .i64 R.f)).setCell { block := g, off := 5 } (Value.slice A1 R.l.length c1)).setCell { block := g, off := 6 } (Value.int .i64 R.w)) = w7 at HD ⊢
  obtain ⟨ff, hev, hfp, _, hfc, _⟩ := HD.out.ev
  have HF := a0_ (And.intro hfp hfc)
  have HRF : Aside0 (RoadF b w7 g { LL with x0 := (⟨LL.x0.f0, R.o, R.f, R.l, R.w⟩ : S26) } vl ff) := ⟨⟨_, _, _, _, _, _, hev⟩⟩
  have BP := a0_ HD.out.bp
  have BC := a0_ HD.out.ce
  have HBW := a0_ HD.out.hb
  have HS := a0_ HD.out.hs
  have y1 : w7.cell? ⟨gc, 1, none⟩ = some (.bool R.has) := (blk_cell BC.out 1).trans rfl
  obtain ⟨L1, hL1⟩ : ∃ L1, L1 = { LL with x0 := (⟨LL.x0.f0, R.o, R.f, R.l, R.w⟩ : S26) } := ⟨_, rfl⟩
  rw [← hL1] at HRF HM
  have HTX1 : Aside0 (L1.texts.length ≤ 1000) := ⟨by rw [hL1]; exact HTX.out⟩
  clear hev hfp hfc HD hL1 HTX HROW HCAP HK
  have HTX := HTX1
  clear HTX1
  go_upto_if 109 with (fail)
  clear y1
  go_cut [110, 111, 112, 113, 114, 115] (fun v110 v111 v112 v113 v114 v115 wc => Aside0 (∃ ff, RoadF b wc g M vl ff ∧ ff gp = 9 ∧ ff gc = 9) ∧ Aside0 (wc.heap[gp]? = some (.cells #[.int .i64 0, .string ps] 93 (0, 0))) ∧ Aside0 (wc.heap[gc]? = some (.cells #[.string R.s, .bool R.has, .string R.reply, .bool R.anew] 95 (0, 0))) ∧ Aside0 (Below b w wc) ∧ Aside0 (b ≤ wc.heap.size))
  case first =>
   cases hq : R.has with
   | false =>
    have hm := HM.out
    unfold RS.hearO at hm
    rw [if_neg (by rw [hq]; decide)] at hm
    obtain rfl := Option.some.inj hm
    go_wp2
    go_meet
    case rel => exact ⟨⟨ff, HRF.out, HF.out⟩, BP, ⟨BC.out⟩, HBW, HS⟩
   | true =>
    have hm := HM.out
    unfold RS.hearO at hm
    rw [if_pos hq] at hm
    obtain ⟨⟨r1, r2, r3, r4, r5⟩, hfd, hm⟩ := Option.map_eq_some_iff.1 hm
    simp only at hm
    have HFD := a0_ hfd
    have HMM := a0_ hm
    have HQ := a0_ hq
    clear hfd hm hq
    go_upto_region 18 with (fail)
    replace HRF : Aside0 (RoadF b w7.drew g L1 vl ff) := ⟨z159_⟩
    replace BP := a0_ (blk_drew BP.out)
    replace BC := a0_ (blk_drew BC.out)
    replace HBW := a0_ (below_drew HBW.out)
    replace HS : Aside0 (b ≤ (World.drew w7).heap.size) := HS
    refine st_ 6 (S := fun w' => w'.cell? ⟨gc, 0, none⟩ = some (.string R.s)) (ds := [5]) (((blk_cell BC.out 0).trans rfl)) (fun hHeld => ?_)
    generalize World.drew w7 = V at HRF BP BC HBW HS hHeld ⊢
    refine pu_ 0 (some 110) rfl rfl ?_
    refine pu_ 1 (some 111) rfl rfl ?_
    refine pu_ 2 (some 112) rfl rfl ?_
    refine pu_ 3 (some 113) rfl rfl ?_
    refine take_ (i := 4) (N := some 114) (v := ?_) (a' := ?_) #[true, true, true, true, true, false] rfl rfl z11_ (fun _ _ _ h => h) (Or.inl ⟨by rfl, ?_⟩) hHeld ?_ ?_
    rotate_left
    ·intro w' s0
     go_simp
     with_reducible rfl
    rotate_left
    ·exact put_
    refine la_ 5 (some 115) rfl rfl (fun K hK => ?_)
    refine goes_ Try.func32 z11_ rfl #[.pointer (some ⟨g, 15, none⟩), .string R.s] (by rfl) rfl rfl z107_ ?_
    with_reducible refine (heard_comes.calls k b g L1 vl ff R.s r1 r2 r3 r4 r5 _ HRF.out HS.out HFD.out HTX.out).mono ?_
    rintro e wt ⟨rfl, hrf, hbb⟩
    refine ⟨_, rfl, ?_⟩
    refine hK.out _ _ ?_
    clear hK K
    refine norm_ (a' := ?_) ?_ ?_
    rotate_left
    ·show Act.put _ (some 115) _ = _
     exact put_
    refine done_ z11_ ?_
    obtain ⟨f', hrf, hk9⟩ := hrf
    go_wp2
    go_meet
    case rel => exact ⟨⟨f', by rw [← HMM.out]; exact hrf, (hk9 gp (blk_lt BP.out) HF.out.1).1, (hk9 gc (blk_lt BC.out) HF.out.2).1⟩, ⟨(hk9 gp (blk_lt BP.out) HF.out.1).2.trans BP.out⟩, ⟨(hk9 gc (blk_lt BC.out) HF.out.2).2.trans BC.out⟩, ⟨HBW.out.trans hbb⟩, ⟨by
     obtain ⟨_, _, _, _, _, _, h⟩ := hrf
     exact Nat.le_of_lt (Nat.lt_of_le_of_lt h.low h.lt)⟩⟩
  case rest =>
   clear HRF BP BC HBW HS HM HTX HF
   obtain ⟨HRF, BP, BC, HBW, HS⟩ := hcut
   obtain ⟨ff, ⟨w0_, w1_, wn_, ww_, wj_, wt_, he⟩, hfp, hfc⟩ := HRF.out
   have HE := a0_ he
   have HF := a0_ (And.intro hfp hfc)
   clear he hfp hfc HRF
   have y2 : wc.cell? ⟨gc, 2, none⟩ = some (.string R.reply) := (blk_cell BC.out 2).trans rfl
   by_cases hs : R.reply.toList = ([] : List UInt8)
   ·have m8 : R.reply.toList.isEmpty = true := by rw [hs]; rfl
    have e8 : R.reply = (⟨#[]⟩ : ByteArray) := by apply ByteArray.ext; apply Array.ext'; rw [ByteArray.toList_eq] at hs; exact hs
    go_wp2
    refine bodyPost_end (results_none rfl _ _ _) rfl ?_
    refine ⟨rfl, ⟨ff, ?_⟩, HBW.out⟩
    unfold RS.reply
    first | rw [if_pos e8] | rw [if_pos rfl]
    exact ⟨_, _, _, _, _, _, HE.out⟩
   ·have m8 : R.reply.toList.isEmpty = false := by cases hq : R.reply.toList with
     | nil => exact absurd hq hs
     | cons => rfl
    have e8 : R.reply ≠ (⟨#[]⟩ : ByteArray) := fun e => hs z144_
    obtain ⟨An, cn, hvn, hnc, hnC⟩ := Kd.R_reads HE.out.hn
    subst hvn
    clear hnc hnC
    have m9 : wrap64 (1 - 0) = 1 := by unfold wrap64; omega
    have m10 : wrap64 1 = 1 := by unfold wrap64; omega
    go_upto_region 20 with (fail)
    replace HE := a0_ HE.out.drew
    replace BP := a0_ (blk_drew BP.out)
    replace BC := a0_ (blk_drew BC.out)
    replace HBW := a0_ (below_drew HBW.out)
    replace HS : Aside0 (b ≤ (World.drew wc).heap.size) := HS
    clear y2
    refine st_ 16 (S := fun w' => w'.cell? ⟨gp, 0, none⟩ = some (.int .i64 0) ∧ w'.cell? ⟨g, 12, none⟩ = some (.slice An M.net.length cn) ∧ w'.cell? ⟨gc, 2, none⟩ = some (.string R.reply)) (ds := [12, 15]) ⟨((blk_cell BP.out 0).trans rfl), ((HE.out.cell 12).trans rfl), ((blk_cell BC.out 2).trans rfl)⟩ (fun hHeld => ?_)
    generalize World.drew wc = V at HE BP BC HBW HS hHeld ⊢
    refine pu_ 0 (some 119) rfl rfl ?_
    refine pu_ 1 (some 120) rfl rfl ?_
    refine pu_ 2 (some 121) rfl rfl ?_
    refine pu_ 3 (some 122) rfl rfl ?_
    refine pu_ 5 (some 124) rfl rfl ?_
    refine pu_ 8 (some 127) rfl rfl ?_
    refine ta_ 4 (some 123) rfl rfl hHeld ?_
    refine ta_ 6 (some 125) rfl rfl hHeld ?_
    refine pu_ 7 (some 126) rfl rfl ?_
    refine ta_ 9 (some 128) rfl rfl hHeld ?_
    refine pu_ 10 (some 129) rfl rfl ?_
    refine on_ 11 (some 130) rfl rfl (fun K hK => ?_)
    refine value_ (w1 := ?_) (v := ?_) (by rfl) rfl ?_ ?_
    rotate_left 2
    ·go_simp
     constructor
     ·rfl
     ·rfl
    refine hK.out _ _ z160_ (fun hHeld => ?_)
    clear hK K
    refine norm_ (a' := ?_) ?_ ?_
    rotate_left
    ·show Act.put _ (some 130) _ = _
     exact put_
    refine la_ 12 (some 131) rfl rfl (fun K hK => ?_)
    refine Kd.R_append_step k93 (w0 := w) b (by rfl) (.tmp 123) (.tmp 130) 33 93 (.agg #[.int .i64 0, .string ⟨#[]⟩]) 24 rfl Try.underlying33 infoWay rfl z17_ z2_ (.slice An M.net.length cn) M.net (⟨1, R.reply⟩ : S93) [.int .i64 1, .string R.reply] (fun k => ff k = 2 ∨ V.heap.size ≤ k) (fun _ => False) rfl rfl ?aP (fun _ hk => hk.elim) ?aF ?aO ?aB ?aS ?aL ?_
    (case aP => exact k93_mkM _ _ _ (⟨1, R.reply⟩ : S93))
    (case aB => exact z153_)
    (case aF => exact (fun _ hk => .inr hk))
    (case aO => exact Kd.R_mono HE.out.hn (fun _ hk => .inl hk))
    (case aS => exact HS.out)
    (case aL => have := HLM.out; omega)
    intro vz w8 ho hbb hg hat
    obtain ⟨A3, c3, rfl⟩ := Kd.R_slice ho
    have HO := a0_ ho
    have HB8 := a0_ hbb
    have HG := a0_ hg
    have HP8 := a0_ (blk_grown BP.out hg (fun e => by have h5 : ff gp = 2 := HE.out.hn.1 gp e.symm; have h9 := HF.out.1; omega))
    have HC8 := a0_ (blk_grown BC.out hg (fun e => by have h5 : ff gc = 2 := HE.out.hn.1 gc e.symm; have h9 := HF.out.2; omega))
    have HBK := a0_ (blk_grown HE.out.blk hg (fun e => by have h5 : ff g = 2 := HE.out.hn.1 g e.symm; have h9 : ff g = 7 := HE.out.own; omega))
    clear ho hbb hg hat
    refine hK.out _ _ ?_
    clear hK K
    refine norm_ (a' := ?_) ?_ ?_
    rotate_left
    ·show Act.put _ (some 131) _ = _
     exact put_
    refine pu_ 13 (some 132) rfl rfl ?_
    refine pu_ 14 (some 133) rfl rfl ?_
    refine la_ 15 (none) rfl rfl (fun K hK => ?_)
    have hct : w8.cell? ⟨g, 12, none⟩ = some (.slice An M.net.length cn) := (blk_cell HBK.out 12).trans rfl
    have hft : w8.frozen? ⟨g, 12, none⟩ = false := blk_frozen HBK.out 12
    refine skip_ (w1 := ?_) (by rfl) rfl ?_ ?_
    rotate_left
    ·go_simp
     rfl
    refine hK.out _ _ ?_
    clear hK K
    refine done_ z11_ ?_
    have hlen : (M.net ++ [(⟨1, R.reply⟩ : S93)]).length = M.net.length + 1 := by simp
    obtain ⟨f9, hf9, he9⟩ := HE.out.set_net HG.out HO.out
    rw [hlen] at he9
    go_wp2
    refine bodyPost_end (results_none rfl _ _ _) rfl ?_
    refine ⟨rfl, ⟨f9, ?_⟩, HB8.out.setCell HE.out.low _⟩
    unfold RS.reply
    rw [if_neg e8]
    exact ⟨_, _, _, _, _, _, he9⟩
set_option maxHeartbeats 8000000 in
set_option maxRecDepth 100000 in
theorem road_act_come1.calls (k b g : Nat) (L LL : RS) (vl : Value) (f : Nat → Nat) (n m : Int) (i : Nat) (ps : ByteArray) (R : link_Take.Res) (M : RS) (w : World) (h : RoadF b w g L vl f) (hb : b ≤ w.heap.size) (hn : 3 ≤ n) (hn9 : n ≤ 9) (hn8 : n ≠ 8) (hlt : LL.texts.length ≤ 1000) (hk : link_Take.f k LL.x1.f0 LL.x1.f1 LL.x1.f2 LL.x1.f3 LL.x1.f4 ps = some R) (hM : RS.hearO k { LL with x1 := (⟨LL.x1.f0, R.o, R.f, R.l, R.w⟩ : S26) } R = some M) (hlm : M.net.length ≤ 100000) (hi : i < L.net.length) (hln : L.net.length ≤ 1000) (hpl : wrap64 ((IntKind.u64.wrap m).tmod (L.net.length : Int)) = (i : Int)) (hp : rd_T93 L.net i = ⟨1, ps⟩) (hLL : LL = if n < 9 then L.gone i else L) :
  Calls Try.prog 7 #[.pointer (some ⟨g, 0, none⟩), .int .i64 n, .int .i64 m] w fun e w' => e = .returned (.tuple #[]) ∧ (∃ f', RoadF b w' g (M.reply 0 R.reply) vl f') ∧ Below b w w' := by
 have HK := a0_ hk
 have HM := a0_ hM
 have HTX := a0_ hlt
 have HLM := a0_ hlm
 clear hk hM hlt hlm
 obtain ⟨v0, v1, vn, vw, vj, vt, h⟩ := h
 obtain ⟨An, cn, hvn, hnc, hC⟩ := Kd.R_reads h.hn
 subst hvn
 have hmax : L.net.length ≤ 9223372036854775807 := hC.2.1
 obtain ⟨ad, hA, z0, z1⟩ := at_T93 hC (i : Int) z2_ z2_
 subst hA
 rw [Int.toNat_natCast] at z0 z1
 rw [hp] at z0 z1
 have HC : Aside0 (CI b w g L w.heap.size (⟨1, ps⟩ : S93) 1 vl v0 v1 (.slice (some ad) L.net.length cn) vw vj vt none none none (w.alloc (.cells #[.int .i64 (1), .string ps] 93 (0, 0)))) := ⟨CI.start h hb 1 ⟨1, ps⟩⟩
 have HE := a0_ h
 have HCN := a0_ hnc
 have HLN := a0_ hln
 clear h hC hb hnc hln hp
 have n1 : (n == 0) = false := beq_eq_false_iff_ne.mpr z2_
 have n2 : decide (n < 3) = false := decide_eq_false z2_
 have n3 : ((L.net.length : Int) == 0) = false := beq_eq_false_iff_ne.2 z2_
 have n3' : (L.net = []) = False := eq_false (fun e => by rw [e] at hi; cases hi)
 have n4 : IntKind.u64.wrap (L.net.length : Int) = (L.net.length : Int) := by rw [IntKind.wrap_u64]; omega
 have x12 := HE.out.cell 12
 simp only [cellsR] at x12
 have HN8 := a0_ hn8
 clear hn8
 have d1 : (0 : Int) ≤ (i : Int) := by omega
 have d2 : (i : Int) < (L.net.length : Int) := by omega
 go_enter Try.func7, Try.ntmps7
 go_upto_if 66 with (fail)
 rw [hpl]
 clear x12 z0 z1 n1 n2 n3 n3' n4 HE hpl hi
 generalize w.alloc (.cells #[.int .i64 (1), .string ps] 93 (0, 0)) = W0 at HC ⊢
 generalize w.heap.size = gp at HC ⊢
 go_cut [10, 67, 68, 69, 70, 71, 72, 73, 74, 75, 76, 77, 78, 79, 80, 81, 82, 83, 84, 85] (fun v10 v67 v68 v69 v70 v71 v72 v73 v74 v75 v76 v77 v78 v79 v80 v81 v82 v83 v84 v85 wc => ∃ vn', Aside0 (CI b w g LL gp (⟨1, ps⟩ : S93) 1 vl v0 v1 vn' vw vj vt none none none wc))
 case first =>
  by_cases h9 : n < 9
  ·have n9 : decide (n < 9) = true := decide_eq_true h9
   rw [if_pos h9] at hLL
   have e0 : (i ≤ cn) = True := eq_true (by have := HCN.out; omega)
   have e1 : (0 ≤ wrap64 ((i : Int) + 1)) = True := eq_true z150_
   have e2 : (wrap64 ((i : Int) + 1) ≤ (L.net.length : Int)) = True := eq_true z150_
   have e3 : (wrap64 ((i : Int) + 1)).toNat = i + 1 := by unfold wrap64; omega
   go_upto_region 13 with (fail)
   obtain ⟨f2, hev, hfp, _⟩ := HC.out.drew.ev
   have HE := a0_ hev
   have HFP := a0_ hfp
   have BP := a0_ HC.out.drew.bp
   have HBW := a0_ HC.out.drew.hb
   have HSZ := a0_ HC.out.drew.hs
   clear hev hfp HC
   have hnc := HCN.out
   refine st_ 20 (S := fun w' => w'.cell? ⟨g, 12, none⟩ = some (.slice (some ad) L.net.length cn)) (ds := [16, 19]) ((HE.out.cell 12).trans rfl) (fun hHeld => ?_)
   generalize World.drew W0 = V at HE BP HBW HSZ hHeld ⊢
   refine pu_ 0 (some 67) rfl rfl ?_
   refine pu_ 1 (some 68) rfl rfl ?_
   refine pu_ 2 (some 69) rfl rfl ?_
   refine pu_ 3 (some 70) rfl rfl ?_
   refine pu_ 4 (some 71) rfl rfl ?_
   refine pu_ 6 (some 73) rfl rfl ?_
   refine pu_ 9 (some 76) rfl rfl ?_
   refine pu_ 10 (some 77) rfl rfl ?_
   refine pu_ 11 (some 78) rfl rfl ?_
   refine pu_ 13 (some 80) rfl rfl ?_
   refine pu_ 14 (some 81) rfl rfl ?_
   refine take_ (i := 5) (N := some 72) (v := ?_) (a' := ?_) #[true, true, true, true, true, true, true, false, false, true, true, true, false, true, true, false, false, false, false, false] rfl rfl z11_ (fun _ _ _ h => h) (Or.inl ⟨by rfl, ?_⟩) hHeld ?_ ?_
   rotate_left
   ·intro w' s0
    go_simp
    with_reducible rfl
   rotate_left
   ·exact put_
   refine pu_ 7 (some 74) rfl rfl ?_
   refine take_ (i := 12) (N := some 79) (v := ?_) (a' := ?_) #[true, true, true, true, true, true, true, true, false, true, true, true, true, true, true, false, false, false, false, false] rfl rfl z11_ (fun _ _ _ h => h) (Or.inl ⟨by rfl, ?_⟩) hHeld ?_ ?_
   rotate_left
   ·intro w' s0
    go_simp
    with_reducible rfl
   rotate_left
   ·exact put_
   refine pu_ 15 (some 82) rfl rfl ?_
   refine on_ 8 (some 75) rfl rfl (fun K hK => ?_)
   refine Kd.R_append_rows_step k93 (Rr := k93.K V) (w0 := w) b (by rfl) (.tmp 68) (.tmp 74) 33 93 (.agg #[.int .i64 0, .string ⟨#[]⟩]) 24 rfl Try.underlying33 infoWay rfl z17_ z2_ (.slice none 0 0) [] (L.net.take i) (some ad) i cn (fun k => V.heap.size ≤ k) (fun _ => False) rfl ?hx (Kd.R_nil _ _ _ _ _) ?aR ?aK (fun _ hk => hk.elim) (fun _ hk => hk) ?aB ?aS ?aL ?_
   (case hx => rfl)
   (case aR => exact z151_)
   (case aK => exact z152_)
   (case aB => exact z153_)
   (case aS => exact HSZ.out)
   (case aL => exact z154_)
   intro vm w2 ho hbb hg hat
   have hbv : Below V.heap.size V w2 := ⟨hg.1, hg.2, hg.3, hg.4, fun k hk => hg.5 k hk (by simp [Value.ownBlock])⟩
   rw [List.nil_append] at ho
   have HE2 := a0_ (HE.out.below hbv)
   have BP2 := a0_ (blk_below BP.out hbv)
   have HO2 := a0_ ho
   have HB2 := a0_ hbb
   have HSZ2 := a0_ (Nat.le_trans HSZ.out hbv.size)
   have HV2 := a0_ hbv
   clear ho hbb hg hat hbv
   refine hK.out _ _ ((HE2.out.cell 12).trans rfl) (fun hHeld => ?_)
   clear hK K
   refine norm_ (a' := ?_) ?_ ?_
   rotate_left
   ·show Act.put _ (some 75) _ = _
    exact put_
   refine la_ 16 (some 83) rfl rfl (fun K hK => ?_)
   refine Kd.R_append_rows_step k93 (Rr := k93.K w2) (w0 := w) b (by rfl) (.tmp 75) (.tmp 82) 33 93 (.agg #[.int .i64 0, .string ⟨#[]⟩]) 24 rfl Try.underlying33 infoWay rfl z17_ z2_ vm (L.net.take i) (L.net.drop (i + 1)) _ _ _ (fun k => V.heap.size ≤ k) (fun _ => False) rfl rfl HO2.out ?aR ?aK (fun _ hk => hk.elim) (fun _ hk => Nat.le_trans HV2.out.size hk) ?aB ?aS ?aL ?_
   (case aR => exact z155_)
   (case aK => exact z152_)
   (case aB => exact HB2.out)
   (case aS => exact HSZ2.out)
   (case aL => exact z156_)
   intro vz w3 ho hbb hg hat
   have hbv : Below V.heap.size V w3 := ⟨hg.1.trans HV2.out.os, hg.2.trans HV2.out.tape, hg.3.trans HV2.out.output, Nat.le_trans HV2.out.size hg.4, fun k hk => (hg.5 k (Nat.lt_of_lt_of_le hk HV2.out.size) (fun e => absurd (HO2.out.1 k e.symm) z2_)).trans (HV2.out.block k hk)⟩
   obtain ⟨A3, c3n, rfl⟩ := Kd.R_slice ho
   have HO3 := a0_ ho
   have HB3 := a0_ hbb
   have HV3 := a0_ hbv
   have HE3 := a0_ (HE.out.below hbv)
   have BP3 := a0_ (blk_below BP.out hbv)
   clear ho hbb hg hat hbv
   refine hK.out _ _ ?_
   clear hK K
   refine norm_ (a' := ?_) ?_ ?_
   rotate_left
   ·show Act.put _ (some 83) _ = _
    exact put_
   refine pu_ 17 (some 84) rfl rfl ?_
   refine pu_ 18 (some 85) rfl rfl ?_
   refine la_ 19 (none) rfl rfl (fun K hK => ?_)
   have hct : w3.cell? ⟨g, 12, none⟩ = some (.slice (some ad) L.net.length cn) := (HE3.out.cell 12).trans rfl
   have hft : w3.frozen? ⟨g, 12, none⟩ = false := HE3.out.frozen 12
   refine skip_ (w1 := ?_) (by rfl) rfl ?_ ?_
   rotate_left
   ·go_simp
    rfl
   refine hK.out _ _ ?_
   clear hK K
   refine done_ z11_ ?_
   obtain ⟨f4, hf4, he4⟩ := HE.out.new_net HV3.out HO3.out
   have HLE := a0_ (show (L.net.take i ++ L.net.drop (i + 1)).length = min i L.net.length + (L.net.length - (i + 1)) from z157_)
   rw [HLE.out] at he4
   have h9p : f4 gp = 9 := (hf4 gp (blk_lt BP.out)).trans HFP.out
   have HC4 : CI b w g LL gp (⟨1, ps⟩ : S93) 1 vl v0 v1 (.slice A3 (min i L.net.length + (L.net.length - (i + 1))) c3n) vw vj vt none none none (w3.setCell ⟨g, 12, none⟩ (.slice A3 (min i L.net.length + (L.net.length - (i + 1))) c3n)) := by
    rw [hLL]
    exact qroade0_
   generalize (if cn = i + 1 then some ad else some (ad.add ((i + 1) * 2))) = AX
   go_wp2
   go_meet
   case rel => exact ⟨_, ⟨HC4⟩⟩
  ·have n9 : decide (n < 9) = false := decide_eq_false h9
   rw [if_neg h9] at hLL
   subst hLL
   go_wp2
   go_meet
   case rel => exact ⟨_, HC⟩
 case rest =>
  clear HC HCN HLN
  obtain ⟨vn', HC⟩ := hcut
  clear hLL
  have n8 : (n == 8) = false := beq_eq_false_iff_ne.mpr HN8.out
  obtain ⟨A0, c0, hv, hc, hq⟩ : ∃ A0 c0, v1 = .slice A0 LL.x1.f3.length c0 ∧ LL.x1.f3.length ≤ c0 ∧ True := by
   obtain ⟨f5, he, _⟩ := HC.out.ev
   obtain ⟨A0, c0, hv, hc, _⟩ := Kd.Q_reads he.h1
   exact ⟨A0, c0, hv, hc, trivial⟩
  subst hv
  clear hq
  have HCAP := a0_ hc
  have hrow : ∀ oy oc W, CI b w g LL gp (⟨1, ps⟩ : S93) 1 vl v0 (.slice A0 LL.x1.f3.length c0) vn' vw vj vt oy oc none W → Kd.C Kd.string W A0 LL.x1.f3.length LL.x1.f3 := fun oy oc W hc => by
   obtain ⟨f', he, _⟩ := hc.ev
   exact (Kd.Q_reads' he.h1).2.2
  have HROW := a0_ hrow
  clear hrow hc
  go_upto_region 15 with (fail)
  replace HC := a0_ HC.out.drew
  refine st_ 17 (S := fun w' => w'.cell? ⟨gp, 0, none⟩ = some (.int .i64 1) ∧ w'.cell? ⟨gp, 1, none⟩ = some (.string ps) ∧ w'.cell? ⟨g, 7, none⟩ = some (.int .i64 LL.x1.f0) ∧ w'.cell? ⟨g, 8, none⟩ = some (.int .i64 LL.x1.f1) ∧ w'.cell? ⟨g, 9, none⟩ = some (.int .i64 LL.x1.f2) ∧ w'.cell? ⟨g, 10, none⟩ = some (.slice A0 LL.x1.f3.length c0) ∧ w'.cell? ⟨g, 11, none⟩ = some (.int .i64 LL.x1.f4)) (ds := [15, 16]) ⟨((blk_cell HC.out.bp 0).trans rfl), ((blk_cell HC.out.bp 1).trans rfl), ((blk_cell HC.out.blk 7).trans rfl), ((blk_cell HC.out.blk 8).trans rfl), ((blk_cell HC.out.blk 9).trans rfl), ((blk_cell HC.out.blk 10).trans rfl), ((blk_cell HC.out.blk 11).trans rfl)⟩ (fun hHeld => ?_)
  generalize World.drew wc = V at HC hHeld ⊢
  refine pu_ 0 (some 89) rfl rfl ?_
  refine pu_ 1 (some 90) rfl rfl ?_
  refine pu_ 3 (some 92) rfl rfl ?_
  refine pu_ 4 (some 93) rfl rfl ?_
  refine pu_ 7 (some 96) rfl rfl ?_
  refine ta_ 2 (some 91) rfl rfl hHeld ?_
  refine pu_ 5 (some 94) rfl rfl ?_
  refine ta_ 6 (some 95) rfl rfl hHeld ?_
  refine ta_ 8 (some 97) rfl rfl hHeld ?_
  refine join_ (σ := Nat × Nat × Option Addr × Nat) 2 #[true, true, true, true, true, true, true, true, true, true, true, true, true, true, true, false, false] (fun s => [(98, .tuple #[.agg #[.int .i64 LL.x1.f0, .int .i64 R.o, .int .i64 R.f, .slice s.2.2.1 R.l.length s.2.2.2, .int .i64 R.w], .agg #[.string R.s, .bool R.has, .string R.reply, .bool R.anew]]), (88, .tuple #[.agg #[.int .i64 LL.x1.f0, .int .i64 R.o, .int .i64 R.f, .slice s.2.2.1 R.l.length s.2.2.2, .int .i64 R.w], .agg #[.string R.s, .bool R.has, .string R.reply, .bool R.anew]]), (99, .agg #[.int .i64 LL.x1.f0, .int .i64 R.o, .int .i64 R.f, .slice s.2.2.1 R.l.length s.2.2.2, .int .i64 R.w]), (100, .agg #[.string R.s, .bool R.has, .string R.reply, .bool R.anew]), (11, .pointer (some ⟨s.1, 0, none⟩)), (12, .pointer (some ⟨s.2.1, 0, none⟩))]) (fun s w' => CI b w g LL gp (⟨1, ps⟩ : S93) 1 vl v0 (.slice A0 LL.x1.f3.length c0) vn' vw vj vt (some s.1) (some s.2.1) (some (.slice s.2.2.1 R.l.length s.2.2.2, R.l)) w') ?_ ?_
  rotate_left
  ·intro hCont
   refine three_ (i := 9) (j := 13) (k := 14) (Ni := some 98) (Nj := some 11) (Nk := some 12) #[true, true, true, true, true, true, true, true, true, true, false, false, false, false, false, false, false] #[true, true, true, true, true, true, true, true, true, false, false, false, false, true, false, false, false] #[true, true, true, true, true, true, true, true, true, false, false, false, false, false, true, false, false] rfl rfl rfl rfl rfl rfl z11_ z17_ z17_ z17_ (fun K hK => ?_) (fun K hK => ?_) (fun K hK => ?_)
   ·skip
    refine goes_ Try.func31 z11_ rfl #[.agg #[.int .i64 LL.x1.f0, .int .i64 LL.x1.f1, .int .i64 LL.x1.f2, .slice A0 LL.x1.f3.length c0, .int .i64 LL.x1.f4], .string ps] (by rfl) rfl rfl z107_ ?_
    with_reducible refine (link_Take.walk k LL.x1.f0 LL.x1.f1 LL.x1.f2 A0 c0 LL.x1.f3 LL.x1.f4 ps R _ (HROW.out _ _ _ HC.out) HCAP.out HK.out).mono ?_
    rintro e wt ⟨vt_, rfl, hv, hb⟩
    refine ⟨_, rfl, ?_⟩
    obtain ⟨A1, c1, rfl, _, _⟩ := link_Take.Out_open hv (HROW.out _ _ _ HC.out) HCAP.out hb
    replace HC := a0_ (HC.out.call1 hb rfl hv)
    clear hv hb
    refine hK.out _ _ z161_ (fun hHeld => ?_)
    clear hK K
    refine norm_ (a' := ?_) ?_ ?_
    rotate_left
    ·show Act.put _ (some 98) _ = _
     exact put_
    refine pu_ 10 (some 88) rfl rfl ?_
    refine pu_ 11 (some 99) rfl rfl ?_
    refine pu_ 12 (some 100) rfl rfl ?_
    refine two_ (i := 13) (j := 14) (Ni := some 11) (Nj := some 12) #[true, true, true, true, true, true, true, true, true, true, true, true, true, true, false, false, false] #[true, true, true, true, true, true, true, true, true, true, true, true, true, false, true, false, false] rfl rfl rfl rfl z11_ z17_ z17_ (fun K hK => ?_) (fun K hK => ?_)
    ·skip
     refine value_ (w1 := ?_) (v := ?_) (by rfl) rfl ?_ ?_
     rotate_left 2
     ·go_simp
      constructor
      ·rfl
      ·rfl
     replace HC := a0_ HC.out.allocY
     refine hK.out _ _ z161_ (fun hHeld => ?_)
     clear hK K
     refine norm_ (a' := ?_) ?_ ?_
     rotate_left
     ·show Act.put _ (some 11) _ = _
      exact put_
     refine on_ 14 (some 12) rfl rfl (fun K hK => ?_)
     refine value_ (w1 := ?_) (v := ?_) (by rfl) rfl ?_ ?_
     rotate_left 2
     ·go_simp
      constructor
      ·rfl
      ·rfl
     replace HC := a0_ HC.out.allocC
     refine hK.out _ _ z161_ (fun hHeld => ?_)
     clear hK K
     refine norm_ (a' := ?_) ?_ ?_
     rotate_left
     ·show Act.put _ (some 12) _ = _
      exact put_
     exact qroade1_
    ·skip
     refine value_ (w1 := ?_) (v := ?_) (by rfl) rfl ?_ ?_
     rotate_left 2
     ·go_simp
      constructor
      ·rfl
      ·rfl
     replace HC := a0_ HC.out.allocC
     refine hK.out _ _ z161_ (fun hHeld => ?_)
     clear hK K
     refine norm_ (a' := ?_) ?_ ?_
     rotate_left
     ·show Act.put _ (some 12) _ = _
      exact put_
     refine on_ 13 (some 11) rfl rfl (fun K hK => ?_)
     refine value_ (w1 := ?_) (v := ?_) (by rfl) rfl ?_ ?_
     rotate_left 2
     ·go_simp
      constructor
      ·rfl
      ·rfl
     replace HC := a0_ HC.out.allocY
     refine hK.out _ _ z161_ (fun hHeld => ?_)
     clear hK K
     refine norm_ (a' := ?_) ?_ ?_
     rotate_left
     ·show Act.put _ (some 11) _ = _
      exact put_
     exact qroade1_
   ·skip
    refine value_ (w1 := ?_) (v := ?_) (by rfl) rfl ?_ ?_
    rotate_left 2
    ·go_simp
     constructor
     ·rfl
     ·rfl
    replace HC := a0_ HC.out.allocY
    refine hK.out _ _ z161_ (fun hHeld => ?_)
    clear hK K
    refine norm_ (a' := ?_) ?_ ?_
    rotate_left
    ·show Act.put _ (some 11) _ = _
     exact put_
    refine two_ (i := 9) (j := 14) (Ni := some 98) (Nj := some 12) #[true, true, true, true, true, true, true, true, true, true, false, false, false, true, false, false, false] #[true, true, true, true, true, true, true, true, true, false, false, false, false, true, true, false, false] rfl rfl rfl rfl z11_ z17_ z17_ (fun K hK => ?_) (fun K hK => ?_)
    ·skip
     refine goes_ Try.func31 z11_ rfl #[.agg #[.int .i64 LL.x1.f0, .int .i64 LL.x1.f1, .int .i64 LL.x1.f2, .slice A0 LL.x1.f3.length c0, .int .i64 LL.x1.f4], .string ps] (by rfl) rfl rfl z107_ ?_
     with_reducible refine (link_Take.walk k LL.x1.f0 LL.x1.f1 LL.x1.f2 A0 c0 LL.x1.f3 LL.x1.f4 ps R _ (HROW.out _ _ _ HC.out) HCAP.out HK.out).mono ?_
     rintro e wt ⟨vt_, rfl, hv, hb⟩
     refine ⟨_, rfl, ?_⟩
     obtain ⟨A1, c1, rfl, _, _⟩ := link_Take.Out_open hv (HROW.out _ _ _ HC.out) HCAP.out hb
     replace HC := a0_ (HC.out.call1 hb rfl hv)
     clear hv hb
     refine hK.out _ _ z161_ (fun hHeld => ?_)
     clear hK K
     refine norm_ (a' := ?_) ?_ ?_
     rotate_left
     ·show Act.put _ (some 98) _ = _
      exact put_
     refine pu_ 10 (some 88) rfl rfl ?_
     refine pu_ 11 (some 99) rfl rfl ?_
     refine pu_ 12 (some 100) rfl rfl ?_
     refine on_ 14 (some 12) rfl rfl (fun K hK => ?_)
     refine value_ (w1 := ?_) (v := ?_) (by rfl) rfl ?_ ?_
     rotate_left 2
     ·go_simp
      constructor
      ·rfl
      ·rfl
     replace HC := a0_ HC.out.allocC
     refine hK.out _ _ z161_ (fun hHeld => ?_)
     clear hK K
     refine norm_ (a' := ?_) ?_ ?_
     rotate_left
     ·show Act.put _ (some 12) _ = _
      exact put_
     exact qroade1_
    ·skip
     refine value_ (w1 := ?_) (v := ?_) (by rfl) rfl ?_ ?_
     rotate_left 2
     ·go_simp
      constructor
      ·rfl
      ·rfl
     replace HC := a0_ HC.out.allocC
     refine hK.out _ _ z161_ (fun hHeld => ?_)
     clear hK K
     refine norm_ (a' := ?_) ?_ ?_
     rotate_left
     ·show Act.put _ (some 12) _ = _
      exact put_
     refine on_ 9 (some 98) rfl rfl (fun K hK => ?_)
     refine goes_ Try.func31 z11_ rfl #[.agg #[.int .i64 LL.x1.f0, .int .i64 LL.x1.f1, .int .i64 LL.x1.f2, .slice A0 LL.x1.f3.length c0, .int .i64 LL.x1.f4], .string ps] (by rfl) rfl rfl z107_ ?_
     with_reducible refine (link_Take.walk k LL.x1.f0 LL.x1.f1 LL.x1.f2 A0 c0 LL.x1.f3 LL.x1.f4 ps R _ (HROW.out _ _ _ HC.out) HCAP.out HK.out).mono ?_
     rintro e wt ⟨vt_, rfl, hv, hb⟩
     refine ⟨_, rfl, ?_⟩
     obtain ⟨A1, c1, rfl, _, _⟩ := link_Take.Out_open hv (HROW.out _ _ _ HC.out) HCAP.out hb
     replace HC := a0_ (HC.out.call1 hb rfl hv)
     clear hv hb
     refine hK.out _ _ z161_ (fun hHeld => ?_)
     clear hK K
     refine norm_ (a' := ?_) ?_ ?_
     rotate_left
     ·show Act.put _ (some 98) _ = _
      exact put_
     refine pu_ 10 (some 88) rfl rfl ?_
     refine pu_ 11 (some 99) rfl rfl ?_
     refine pu_ 12 (some 100) rfl rfl ?_
     exact qroade1_
   ·skip
    refine value_ (w1 := ?_) (v := ?_) (by rfl) rfl ?_ ?_
    rotate_left 2
    ·go_simp
     constructor
     ·rfl
     ·rfl
    replace HC := a0_ HC.out.allocC
    refine hK.out _ _ z161_ (fun hHeld => ?_)
    clear hK K
    refine norm_ (a' := ?_) ?_ ?_
    rotate_left
    ·show Act.put _ (some 12) _ = _
     exact put_
    refine two_ (i := 9) (j := 13) (Ni := some 98) (Nj := some 11) #[true, true, true, true, true, true, true, true, true, true, false, false, false, false, true, false, false] #[true, true, true, true, true, true, true, true, true, false, false, false, false, true, true, false, false] rfl rfl rfl rfl z11_ z17_ z17_ (fun K hK => ?_) (fun K hK => ?_)
    ·skip
     refine goes_ Try.func31 z11_ rfl #[.agg #[.int .i64 LL.x1.f0, .int .i64 LL.x1.f1, .int .i64 LL.x1.f2, .slice A0 LL.x1.f3.length c0, .int .i64 LL.x1.f4], .string ps] (by rfl) rfl rfl z107_ ?_
     with_reducible refine (link_Take.walk k LL.x1.f0 LL.x1.f1 LL.x1.f2 A0 c0 LL.x1.f3 LL.x1.f4 ps R _ (HROW.out _ _ _ HC.out) HCAP.out HK.out).mono ?_
     rintro e wt ⟨vt_, rfl, hv, hb⟩
     refine ⟨_, rfl, ?_⟩
     obtain ⟨A1, c1, rfl, _, _⟩ := link_Take.Out_open hv (HROW.out _ _ _ HC.out) HCAP.out hb
     replace HC := a0_ (HC.out.call1 hb rfl hv)
     clear hv hb
     refine hK.out _ _ z161_ (fun hHeld => ?_)
     clear hK K
     refine norm_ (a' := ?_) ?_ ?_
     rotate_left
     ·show Act.put _ (some 98) _ = _
      exact put_
     refine pu_ 10 (some 88) rfl rfl ?_
     refine pu_ 11 (some 99) rfl rfl ?_
     refine pu_ 12 (some 100) rfl rfl ?_
     refine on_ 13 (some 11) rfl rfl (fun K hK => ?_)
     refine value_ (w1 := ?_) (v := ?_) (by rfl) rfl ?_ ?_
     rotate_left 2
     ·go_simp
      constructor
      ·rfl
      ·rfl
     replace HC := a0_ HC.out.allocY
     refine hK.out _ _ z161_ (fun hHeld => ?_)
     clear hK K
     refine norm_ (a' := ?_) ?_ ?_
     rotate_left
     ·show Act.put _ (some 11) _ = _
      exact put_
     exact qroade1_
    ·skip
     refine value_ (w1 := ?_) (v := ?_) (by rfl) rfl ?_ ?_
     rotate_left 2
     ·go_simp
      constructor
      ·rfl
      ·rfl
     replace HC := a0_ HC.out.allocY
     refine hK.out _ _ z161_ (fun hHeld => ?_)
     clear hK K
     refine norm_ (a' := ?_) ?_ ?_
     rotate_left
     ·show Act.put _ (some 11) _ = _
      exact put_
     refine on_ 9 (some 98) rfl rfl (fun K hK => ?_)
     refine goes_ Try.func31 z11_ rfl #[.agg #[.int .i64 LL.x1.f0, .int .i64 LL.x1.f1, .int .i64 LL.x1.f2, .slice A0 LL.x1.f3.length c0, .int .i64 LL.x1.f4], .string ps] (by rfl) rfl rfl z107_ ?_
     with_reducible refine (link_Take.walk k LL.x1.f0 LL.x1.f1 LL.x1.f2 A0 c0 LL.x1.f3 LL.x1.f4 ps R _ (HROW.out _ _ _ HC.out) HCAP.out HK.out).mono ?_
     rintro e wt ⟨vt_, rfl, hv, hb⟩
     refine ⟨_, rfl, ?_⟩
     obtain ⟨A1, c1, rfl, _, _⟩ := link_Take.Out_open hv (HROW.out _ _ _ HC.out) HCAP.out hb
     replace HC := a0_ (HC.out.call1 hb rfl hv)
     clear hv hb
     refine hK.out _ _ z161_ (fun hHeld => ?_)
     clear hK K
     refine norm_ (a' := ?_) ?_ ?_
     rotate_left
     ·show Act.put _ (some 98) _ = _
      exact put_
     refine pu_ 10 (some 88) rfl rfl ?_
     refine pu_ 11 (some 99) rfl rfl ?_
     refine pu_ 12 (some 100) rfl rfl ?_
     exact qroade1_
  rintro ⟨gy, gc, A1, c1⟩ w4 hci
  have HC4 := a0_ hci
  clear hci
  have hHeld : w4.cell? ⟨gp, 0, none⟩ = some (.int .i64 1) ∧ w4.cell? ⟨gp, 1, none⟩ = some (.string ps) ∧ w4.cell? ⟨g, 7, none⟩ = some (.int .i64 LL.x1.f0) ∧ w4.cell? ⟨g, 8, none⟩ = some (.int .i64 LL.x1.f1) ∧ w4.cell? ⟨g, 9, none⟩ = some (.int .i64 LL.x1.f2) ∧ w4.cell? ⟨g, 10, none⟩ = some (.slice A0 LL.x1.f3.length c0) ∧ w4.cell? ⟨g, 11, none⟩ = some (.int .i64 LL.x1.f4) := ⟨((blk_cell HC4.out.bp 0).trans rfl), ((blk_cell HC4.out.bp 1).trans rfl), ((blk_cell HC4.out.blk 7).trans rfl), ((blk_cell HC4.out.blk 8).trans rfl), ((blk_cell HC4.out.blk 9).trans rfl), ((blk_cell HC4.out.blk 10).trans rfl), ((blk_cell HC4.out.blk 11).trans rfl)⟩
  refine norm_ (a' := ?_) ?_ ?_
  rotate_left
  ·simp only [putAll, Act.put, List.setIfInBounds_toArray, List.set_cons_zero, List.set_cons_succ]
   rfl
  refine la_ 15 (none) rfl rfl (fun K hK => ?_)
  have HD := a0_ (DI.of HC4.out (HC4.out.ly _ rfl) (HC4.out.lc _ rfl))
  clear HC4 HC
  have a0 : w4.cell? ⟨gy, 0, none⟩ = some (.int .i64 0) := (blk_cell HD.out.ye 0).trans rfl
  have a1 : w4.cell? ⟨gy, 1, none⟩ = some (.int .i64 0) := (blk_cell HD.out.ye 1).trans rfl
  have a2 : w4.cell? ⟨gy, 2, none⟩ = some (.int .i64 0) := (blk_cell HD.out.ye 2).trans rfl
  have a3 : w4.cell? ⟨gy, 3, none⟩ = some (.slice none 0 0) := (blk_cell HD.out.ye 3).trans rfl
  have a4 : w4.cell? ⟨gy, 4, none⟩ = some (.int .i64 0) := (blk_cell HD.out.ye 4).trans rfl
  have b0 : w4.frozen? ⟨gy, 0, none⟩ = false := blk_frozen HD.out.ye 0
  have b1 : w4.frozen? ⟨gy, 1, none⟩ = false := blk_frozen HD.out.ye 1
  have b2 : w4.frozen? ⟨gy, 2, none⟩ = false := blk_frozen HD.out.ye 2
  have b3 : w4.frozen? ⟨gy, 3, none⟩ = false := blk_frozen HD.out.ye 3
  have b4 : w4.frozen? ⟨gy, 4, none⟩ = false := blk_frozen HD.out.ye 4
  refine skip_ (w1 := ?_) (by rfl) rfl ?_ ?_
  rotate_left
  ·go_simp
   rfl
  refine hK.out _ _ ?_
  clear hK K
  refine la_ 16 (none) rfl rfl (fun K hK => ?_)
  clear a0 a1 a2 a3 a4 b0 b1 b2 b3 b4
  replace HD := a0_ (((((HD.out.setY z17_ 0 (.int .i64 LL.x1.f0) rfl).setY z17_ 1 (.int .i64 R.o) rfl).setY z17_ 2 (.int .i64 R.f) rfl).setY z17_ 3 (.slice A1 R.l.length c1) rfl).setY z17_ 4 (.int .i64 R.w) rfl)
  generalize (((((w4.setCell { block := gy, off := 0 } (Value.int .i64 LL.x1.f0)).setCell { block := gy, off := 1 } (Value.int .i64 R.o)).setCell { block := gy, off := 2 } (Value.int .i64 R.f)).setCell { block := gy, off := 3 } (Value.slice A1 R.l.length c1)).setCell { block := gy, off := 4 } (Value.int .i64 R.w)) = w5 at HD ⊢
  have a0 : w5.cell? ⟨gc, 0, none⟩ = some (.string ⟨#[]⟩) := (blk_cell HD.out.ce 0).trans rfl
  have a1 : w5.cell? ⟨gc, 1, none⟩ = some (.bool false) := (blk_cell HD.out.ce 1).trans rfl
  have a2 : w5.cell? ⟨gc, 2, none⟩ = some (.string ⟨#[]⟩) := (blk_cell HD.out.ce 2).trans rfl
  have a3 : w5.cell? ⟨gc, 3, none⟩ = some (.bool false) := (blk_cell HD.out.ce 3).trans rfl
  have b0 : w5.frozen? ⟨gc, 0, none⟩ = false := blk_frozen HD.out.ce 0
  have b1 : w5.frozen? ⟨gc, 1, none⟩ = false := blk_frozen HD.out.ce 1
  have b2 : w5.frozen? ⟨gc, 2, none⟩ = false := blk_frozen HD.out.ce 2
  have b3 : w5.frozen? ⟨gc, 3, none⟩ = false := blk_frozen HD.out.ce 3
  refine skip_ (w1 := ?_) (by rfl) rfl ?_ ?_
  rotate_left
  ·go_simp
   rfl
  refine hK.out _ _ ?_
  clear hK K
  refine done_ z11_ ?_
  clear a0 a1 a2 a3 b0 b1 b2 b3
  replace HD := a0_ ((((HD.out.setC z17_ 0 (.string R.s) rfl).setC z17_ 1 (.bool R.has) rfl).setC z17_ 2 (.string R.reply) rfl).setC z17_ 3 (.bool R.anew) rfl)
  generalize ((((w5.setCell { block := gc, off := 0 } (Value.string R.s)).setCell { block := gc, off := 1 } (Value.bool R.has)).setCell { block := gc, off := 2 } (Value.string R.reply)).setCell { block := gc, off := 3 } (Value.bool R.anew)) = w6 at HD ⊢
  go_upto_region 16 with (fail)
  replace HD := a0_ HD.out.drew
  refine st_ 8 (S := fun w' => w'.cell? ⟨gp, 0, none⟩ = some (.int .i64 1) ∧ w'.cell? ⟨gy, 0, none⟩ = some (.int .i64 LL.x1.f0) ∧ w'.cell? ⟨gy, 1, none⟩ = some (.int .i64 R.o) ∧ w'.cell? ⟨gy, 2, none⟩ = some (.int .i64 R.f) ∧ w'.cell? ⟨gy, 3, none⟩ = some (.slice A1 R.l.length c1) ∧ w'.cell? ⟨gy, 4, none⟩ = some (.int .i64 R.w)) (ds := [7]) ⟨((blk_cell HD.out.bp 0).trans rfl), ((blk_cell HD.out.ye 0).trans rfl), ((blk_cell HD.out.ye 1).trans rfl), ((blk_cell HD.out.ye 2).trans rfl), ((blk_cell HD.out.ye 3).trans rfl), ((blk_cell HD.out.ye 4).trans rfl)⟩ (fun hHeld => ?_)
  generalize World.drew w6 = V at HD hHeld ⊢
  refine pu_ 0 (some 101) rfl rfl ?_
  refine pu_ 1 (some 102) rfl rfl ?_
  refine pu_ 4 (some 105) rfl rfl ?_
  refine pu_ 5 (some 106) rfl rfl ?_
  refine ta_ 2 (some 103) rfl rfl hHeld ?_
  refine ta_ 3 (some 104) rfl rfl hHeld ?_
  refine pu_ 6 (some 107) rfl rfl ?_
  refine la_ 7 (none) rfl rfl (fun K hK => ?_)
  have a0 : V.cell? ⟨g, 7, none⟩ = some (.int .i64 LL.x1.f0) := (blk_cell HD.out.blk 7).trans rfl
  have a1 : V.cell? ⟨g, 8, none⟩ = some (.int .i64 LL.x1.f1) := (blk_cell HD.out.blk 8).trans rfl
  have a2 : V.cell? ⟨g, 9, none⟩ = some (.int .i64 LL.x1.f2) := (blk_cell HD.out.blk 9).trans rfl
  have a3 : V.cell? ⟨g, 10, none⟩ = some (.slice A0 LL.x1.f3.length c0) := (blk_cell HD.out.blk 10).trans rfl
  have a4 : V.cell? ⟨g, 11, none⟩ = some (.int .i64 LL.x1.f4) := (blk_cell HD.out.blk 11).trans rfl
  have b0 : V.frozen? ⟨g, 7, none⟩ = false := blk_frozen HD.out.blk 7
  have b1 : V.frozen? ⟨g, 8, none⟩ = false := blk_frozen HD.out.blk 8
  have b2 : V.frozen? ⟨g, 9, none⟩ = false := blk_frozen HD.out.blk 9
  have b3 : V.frozen? ⟨g, 10, none⟩ = false := blk_frozen HD.out.blk 10
  have b4 : V.frozen? ⟨g, 11, none⟩ = false := blk_frozen HD.out.blk 11
  refine skip_ (w1 := ?_) (by rfl) rfl ?_ ?_
  rotate_left
  ·go_simp
   rfl
  refine hK.out _ _ ?_
  clear hK K
  refine done_ z11_ ?_
  clear a0 a1 a2 a3 a4 b0 b1 b2 b3 b4
  replace HD := a0_ (HD.out.setX1 (⟨LL.x1.f0, R.o, R.f, R.l, R.w⟩ : S26) rfl)
  generalize (((((V.setCell { block := g, off := 7 } (Value.int .i64 LL.x1.f0)).setCell { block := g, off := 8 } (Value.int .i64 R.o)).setCell { block := g, off := 9 } (Value.int .i64 R.f)).setCell { block := g, off := 10 } (Value.slice A1 R.l.length c1)).setCell { block := g, off := 11 } (Value.int .i64 R.w)) = w7 at HD ⊢
  obtain ⟨ff, hev, hfp, _, hfc, _⟩ := HD.out.ev
  have HF := a0_ (And.intro hfp hfc)
  have HRF : Aside0 (RoadF b w7 g { LL with x1 := (⟨LL.x1.f0, R.o, R.f, R.l, R.w⟩ : S26) } vl ff) := ⟨⟨_, _, _, _, _, _, hev⟩⟩
  have BP := a0_ HD.out.bp
  have BC := a0_ HD.out.ce
  have HBW := a0_ HD.out.hb
  have HS := a0_ HD.out.hs
  have y1 : w7.cell? ⟨gc, 1, none⟩ = some (.bool R.has) := (blk_cell BC.out 1).trans rfl
  obtain ⟨L1, hL1⟩ : ∃ L1, L1 = { LL with x1 := (⟨LL.x1.f0, R.o, R.f, R.l, R.w⟩ : S26) } := ⟨_, rfl⟩
  rw [← hL1] at HRF HM
  have HTX1 : Aside0 (L1.texts.length ≤ 1000) := ⟨by rw [hL1]; exact HTX.out⟩
  clear hev hfp hfc HD hL1 HTX HROW HCAP HK
  have HTX := HTX1
  clear HTX1
  go_upto_if 109 with (fail)
  clear y1
  go_cut [110, 111, 112, 113, 114, 115] (fun v110 v111 v112 v113 v114 v115 wc => Aside0 (∃ ff, RoadF b wc g M vl ff ∧ ff gp = 9 ∧ ff gc = 9) ∧ Aside0 (wc.heap[gp]? = some (.cells #[.int .i64 1, .string ps] 93 (0, 0))) ∧ Aside0 (wc.heap[gc]? = some (.cells #[.string R.s, .bool R.has, .string R.reply, .bool R.anew] 95 (0, 0))) ∧ Aside0 (Below b w wc) ∧ Aside0 (b ≤ wc.heap.size))
  case first =>
   cases hq : R.has with
   | false =>
    have hm := HM.out
    unfold RS.hearO at hm
    rw [if_neg (by rw [hq]; decide)] at hm
    obtain rfl := Option.some.inj hm
    go_wp2
    go_meet
    case rel => exact ⟨⟨ff, HRF.out, HF.out⟩, BP, ⟨BC.out⟩, HBW, HS⟩
   | true =>
    have hm := HM.out
    unfold RS.hearO at hm
    rw [if_pos hq] at hm
    obtain ⟨⟨r1, r2, r3, r4, r5⟩, hfd, hm⟩ := Option.map_eq_some_iff.1 hm
    simp only at hm
    have HFD := a0_ hfd
    have HMM := a0_ hm
    have HQ := a0_ hq
    clear hfd hm hq
    go_upto_region 18 with (fail)
    replace HRF : Aside0 (RoadF b w7.drew g L1 vl ff) := ⟨z159_⟩
    replace BP := a0_ (blk_drew BP.out)
    replace BC := a0_ (blk_drew BC.out)
    replace HBW := a0_ (below_drew HBW.out)
    replace HS : Aside0 (b ≤ (World.drew w7).heap.size) := HS
    refine st_ 6 (S := fun w' => w'.cell? ⟨gc, 0, none⟩ = some (.string R.s)) (ds := [5]) (((blk_cell BC.out 0).trans rfl)) (fun hHeld => ?_)
    generalize World.drew w7 = V at HRF BP BC HBW HS hHeld ⊢
    refine pu_ 0 (some 110) rfl rfl ?_
    refine pu_ 1 (some 111) rfl rfl ?_
    refine pu_ 2 (some 112) rfl rfl ?_
    refine pu_ 3 (some 113) rfl rfl ?_
    refine take_ (i := 4) (N := some 114) (v := ?_) (a' := ?_) #[true, true, true, true, true, false] rfl rfl z11_ (fun _ _ _ h => h) (Or.inl ⟨by rfl, ?_⟩) hHeld ?_ ?_
    rotate_left
    ·intro w' s0
     go_simp
     with_reducible rfl
    rotate_left
    ·exact put_
    refine la_ 5 (some 115) rfl rfl (fun K hK => ?_)
    refine goes_ Try.func32 z11_ rfl #[.pointer (some ⟨g, 15, none⟩), .string R.s] (by rfl) rfl rfl z107_ ?_
    with_reducible refine (heard_comes.calls k b g L1 vl ff R.s r1 r2 r3 r4 r5 _ HRF.out HS.out HFD.out HTX.out).mono ?_
    rintro e wt ⟨rfl, hrf, hbb⟩
    refine ⟨_, rfl, ?_⟩
    refine hK.out _ _ ?_
    clear hK K
    refine norm_ (a' := ?_) ?_ ?_
    rotate_left
    ·show Act.put _ (some 115) _ = _
     exact put_
    refine done_ z11_ ?_
    obtain ⟨f', hrf, hk9⟩ := hrf
    go_wp2
    go_meet
    case rel => exact ⟨⟨f', by rw [← HMM.out]; exact hrf, (hk9 gp (blk_lt BP.out) HF.out.1).1, (hk9 gc (blk_lt BC.out) HF.out.2).1⟩, ⟨(hk9 gp (blk_lt BP.out) HF.out.1).2.trans BP.out⟩, ⟨(hk9 gc (blk_lt BC.out) HF.out.2).2.trans BC.out⟩, ⟨HBW.out.trans hbb⟩, ⟨by
     obtain ⟨_, _, _, _, _, _, h⟩ := hrf
     exact Nat.le_of_lt (Nat.lt_of_le_of_lt h.low h.lt)⟩⟩
  case rest =>
   clear HRF BP BC HBW HS HM HTX HF
   obtain ⟨HRF, BP, BC, HBW, HS⟩ := hcut
   obtain ⟨ff, ⟨w0_, w1_, wn_, ww_, wj_, wt_, he⟩, hfp, hfc⟩ := HRF.out
   have HE := a0_ he
   have HF := a0_ (And.intro hfp hfc)
   clear he hfp hfc HRF
   have y2 : wc.cell? ⟨gc, 2, none⟩ = some (.string R.reply) := (blk_cell BC.out 2).trans rfl
   by_cases hs : R.reply.toList = ([] : List UInt8)
   ·have m8 : R.reply.toList.isEmpty = true := by rw [hs]; rfl
    have e8 : R.reply = (⟨#[]⟩ : ByteArray) := by apply ByteArray.ext; apply Array.ext'; rw [ByteArray.toList_eq] at hs; exact hs
    go_wp2
    refine bodyPost_end (results_none rfl _ _ _) rfl ?_
    refine ⟨rfl, ⟨ff, ?_⟩, HBW.out⟩
    unfold RS.reply
    first | rw [if_pos e8] | rw [if_pos rfl]
    exact ⟨_, _, _, _, _, _, HE.out⟩
   ·have m8 : R.reply.toList.isEmpty = false := by cases hq : R.reply.toList with
     | nil => exact absurd hq hs
     | cons => rfl
    have e8 : R.reply ≠ (⟨#[]⟩ : ByteArray) := fun e => hs z144_
    obtain ⟨An, cn, hvn, hnc, hnC⟩ := Kd.R_reads HE.out.hn
    subst hvn
    clear hnc hnC
    have m9 : wrap64 (1 - 1) = 0 := by unfold wrap64; omega
    have m10 : wrap64 0 = 0 := by unfold wrap64; omega
    go_upto_region 20 with (fail)
    replace HE := a0_ HE.out.drew
    replace BP := a0_ (blk_drew BP.out)
    replace BC := a0_ (blk_drew BC.out)
    replace HBW := a0_ (below_drew HBW.out)
    replace HS : Aside0 (b ≤ (World.drew wc).heap.size) := HS
    clear y2
    refine st_ 16 (S := fun w' => w'.cell? ⟨gp, 0, none⟩ = some (.int .i64 1) ∧ w'.cell? ⟨g, 12, none⟩ = some (.slice An M.net.length cn) ∧ w'.cell? ⟨gc, 2, none⟩ = some (.string R.reply)) (ds := [12, 15]) ⟨((blk_cell BP.out 0).trans rfl), ((HE.out.cell 12).trans rfl), ((blk_cell BC.out 2).trans rfl)⟩ (fun hHeld => ?_)
    generalize World.drew wc = V at HE BP BC HBW HS hHeld ⊢
    refine pu_ 0 (some 119) rfl rfl ?_
    refine pu_ 1 (some 120) rfl rfl ?_
    refine pu_ 2 (some 121) rfl rfl ?_
    refine pu_ 3 (some 122) rfl rfl ?_
    refine pu_ 5 (some 124) rfl rfl ?_
    refine pu_ 8 (some 127) rfl rfl ?_
    refine ta_ 4 (some 123) rfl rfl hHeld ?_
    refine ta_ 6 (some 125) rfl rfl hHeld ?_
    refine pu_ 7 (some 126) rfl rfl ?_
    refine ta_ 9 (some 128) rfl rfl hHeld ?_
    refine pu_ 10 (some 129) rfl rfl ?_
    refine on_ 11 (some 130) rfl rfl (fun K hK => ?_)
    refine value_ (w1 := ?_) (v := ?_) (by rfl) rfl ?_ ?_
    rotate_left 2
    ·go_simp
     constructor
     ·rfl
     ·rfl
    refine hK.out _ _ z160_ (fun hHeld => ?_)
    clear hK K
    refine norm_ (a' := ?_) ?_ ?_
    rotate_left
    ·show Act.put _ (some 130) _ = _
     exact put_
    refine la_ 12 (some 131) rfl rfl (fun K hK => ?_)
    refine Kd.R_append_step k93 (w0 := w) b (by rfl) (.tmp 123) (.tmp 130) 33 93 (.agg #[.int .i64 0, .string ⟨#[]⟩]) 24 rfl Try.underlying33 infoWay rfl z17_ z2_ (.slice An M.net.length cn) M.net (⟨0, R.reply⟩ : S93) [.int .i64 0, .string R.reply] (fun k => ff k = 2 ∨ V.heap.size ≤ k) (fun _ => False) rfl rfl ?aP (fun _ hk => hk.elim) ?aF ?aO ?aB ?aS ?aL ?_
    (case aP => exact k93_mkM _ _ _ (⟨0, R.reply⟩ : S93))
    (case aB => exact z153_)
    (case aF => exact (fun _ hk => .inr hk))
    (case aO => exact Kd.R_mono HE.out.hn (fun _ hk => .inl hk))
    (case aS => exact HS.out)
    (case aL => have := HLM.out; omega)
    intro vz w8 ho hbb hg hat
    obtain ⟨A3, c3, rfl⟩ := Kd.R_slice ho
    have HO := a0_ ho
    have HB8 := a0_ hbb
    have HG := a0_ hg
    have HP8 := a0_ (blk_grown BP.out hg (fun e => by have h5 : ff gp = 2 := HE.out.hn.1 gp e.symm; have h9 := HF.out.1; omega))
    have HC8 := a0_ (blk_grown BC.out hg (fun e => by have h5 : ff gc = 2 := HE.out.hn.1 gc e.symm; have h9 := HF.out.2; omega))
    have HBK := a0_ (blk_grown HE.out.blk hg (fun e => by have h5 : ff g = 2 := HE.out.hn.1 g e.symm; have h9 : ff g = 7 := HE.out.own; omega))
    clear ho hbb hg hat
    refine hK.out _ _ ?_
    clear hK K
    refine norm_ (a' := ?_) ?_ ?_
    rotate_left
    ·show Act.put _ (some 131) _ = _
     exact put_
    refine pu_ 13 (some 132) rfl rfl ?_
    refine pu_ 14 (some 133) rfl rfl ?_
    refine la_ 15 (none) rfl rfl (fun K hK => ?_)
    have hct : w8.cell? ⟨g, 12, none⟩ = some (.slice An M.net.length cn) := (blk_cell HBK.out 12).trans rfl
    have hft : w8.frozen? ⟨g, 12, none⟩ = false := blk_frozen HBK.out 12
    refine skip_ (w1 := ?_) (by rfl) rfl ?_ ?_
    rotate_left
    ·go_simp
     rfl
    refine hK.out _ _ ?_
    clear hK K
    refine done_ z11_ ?_
    have hlen : (M.net ++ [(⟨0, R.reply⟩ : S93)]).length = M.net.length + 1 := by simp
    obtain ⟨f9, hf9, he9⟩ := HE.out.set_net HG.out HO.out
    rw [hlen] at he9
    go_wp2
    refine bodyPost_end (results_none rfl _ _ _) rfl ?_
    refine ⟨rfl, ⟨f9, ?_⟩, HB8.out.setCell HE.out.low _⟩
    unfold RS.reply
    rw [if_neg e8]
    exact ⟨_, _, _, _, _, _, he9⟩
end Go.Proofs.Ytecfndblgefhdaa.P
