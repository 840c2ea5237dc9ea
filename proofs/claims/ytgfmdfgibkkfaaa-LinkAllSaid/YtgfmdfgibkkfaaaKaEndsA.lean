import Derived.Test.YtgfmdfgibkkfaaaKaPx0
import Derived.Test.YtgfmdfgibkkfaaaKaPx2
import Derived.Test.YtgfmdfgibkkfaaaKaEndsP
set_option linter.unusedVariables false
set_option linter.unusedSimpArgs false
namespace Go.Proofs.Ytgfmdfgibkkfaaa.P
open Go.RowKit Go.Proofs.YtgfmdfgibkkfaaaW.PrintWords Go.Proofs.YtgfmdfgibkkfaaaW.PrintLast Go.Proofs.YtgfmdfgibkkfaaaW.PrintMore
attribute [local go_sem] max2_int min2_int max_two min_two max_three min_three max_four min_four
set_option maxHeartbeats 4000000 in
set_option maxRecDepth 100000 in
theorem ends_act_p0.calls (k b g : Nat) (L : LS) (a : S55) (w : World) (h : Ends b w g L) (hb : b ≤ w.heap.size) (hK : actK a = 0) (y : Int × Int × Int × List ByteArray × Int × ByteArray × Int) (hlc : L.p0.length ≤ 1000) (hk : link_Put.f k L.x0.f0 L.x0.f1 L.x0.f2 L.x0.f3 L.x0.f4 a.f2 = some y) :
    Calls Try.prog 25 #[.pointer (some ⟨g, 0, none⟩), .agg #[.int .i64 a.f0, .int .i64 a.f1, .string a.f2]] w fun e w' => e = .returned (.tuple #[]) ∧ Ends b w' g (L.puts0 a.f2 y) ∧ Below b w w' := by
  obtain ⟨f, v0, v1, vn, q0, q1, r0, r1, h⟩ := h
  have hba := below_alloc (Below.refl w.heap.size w) (.cells #[.int .i64 a.f0, .int .i64 a.f1, .string a.f2] 55 (0, 0))
  have BA := Aside0.mk (blk_new w (.cells #[.int .i64 a.f0, .int .i64 a.f1, .string a.f2] 55 (0, 0)))
  have HEV := Aside0.mk (h.fresh hba 9)
  have HF9 : Aside0 (tagf f w.heap.size 9 w.heap.size = 9) := ⟨by unfold tagf; rw [if_pos (Nat.le_refl _)]⟩
  generalize tagf f w.heap.size 9 = f at HEV HF9
  have HBW := Aside0.mk (hba.mono hb)
  have HS0 := Aside0.mk (Nat.le_trans hb hba.size)
  have a0 := blk_cell BA.out 0
  clear h hba hb
  go_enter Try.func25, Try.ntmps25
  go_upto_region 2 with (fail)
  rw [show wrap64 ((IntKind.u64.wrap a.f0).tmod 12) = 0 from hK]
  clear a0 hK
  generalize w.alloc (.cells #[.int .i64 a.f0, .int .i64 a.f1, .string a.f2] 55 (0, 0)) = W0 at BA HEV HBW HS0 ⊢
  generalize w.heap.size = ga at BA HF9 ⊢
  have a1 : W0.cell? ⟨ga, 1, none⟩ = some (.int .i64 a.f1) := (blk_cell BA.out 1).trans rfl
  have a2 : W0.cell? ⟨ga, 2, none⟩ = some (.string a.f2) := (blk_cell BA.out 2).trans rfl
  have HE : Aside0 (Ends b W0 g L) := ⟨⟨f, _, _, _, _, _, _, _, HEV.out⟩⟩
  obtain ⟨y1, y2, y3, y4, y5, y6, y7⟩ := y
  have HK := Aside0.mk hk
  have HLC := Aside0.mk hlc
  clear hk hlc
  go_wp2_with fail
  (with_reducible refine (ends_puts0.calls k b g L a.f2 y1 y2 y3 y4 y5 y6 y7 _ HE.out HS0.out HLC.out HK.out).mono ?_)
  rintro e w1 ⟨rfl, he, hb⟩
  go_wp2
  refine bodyPost_ret (results_none rfl _ _ _) rfl ?_
  exact ⟨rfl, he, HBW.out.trans hb⟩
set_option maxHeartbeats 4000000 in
set_option maxRecDepth 100000 in
theorem ends_act_p1.calls (k b g : Nat) (L : LS) (a : S55) (w : World) (h : Ends b w g L) (hb : b ≤ w.heap.size) (hK : actK a = 1) (y : Int × Int × Int × List ByteArray × Int × ByteArray × Int) (hlc : L.p0.length ≤ 1000) (hk : link_Put.f k L.x0.f0 L.x0.f1 L.x0.f2 L.x0.f3 L.x0.f4 a.f2 = some y) :
    Calls Try.prog 25 #[.pointer (some ⟨g, 0, none⟩), .agg #[.int .i64 a.f0, .int .i64 a.f1, .string a.f2]] w fun e w' => e = .returned (.tuple #[]) ∧ Ends b w' g (L.puts0 a.f2 y) ∧ Below b w w' := by
  obtain ⟨f, v0, v1, vn, q0, q1, r0, r1, h⟩ := h
  have hba := below_alloc (Below.refl w.heap.size w) (.cells #[.int .i64 a.f0, .int .i64 a.f1, .string a.f2] 55 (0, 0))
  have BA := Aside0.mk (blk_new w (.cells #[.int .i64 a.f0, .int .i64 a.f1, .string a.f2] 55 (0, 0)))
  have HEV := Aside0.mk (h.fresh hba 9)
  have HF9 : Aside0 (tagf f w.heap.size 9 w.heap.size = 9) := ⟨by unfold tagf; rw [if_pos (Nat.le_refl _)]⟩
  generalize tagf f w.heap.size 9 = f at HEV HF9
  have HBW := Aside0.mk (hba.mono hb)
  have HS0 := Aside0.mk (Nat.le_trans hb hba.size)
  have a0 := blk_cell BA.out 0
  clear h hba hb
  go_enter Try.func25, Try.ntmps25
  go_upto_region 2 with (fail)
  rw [show wrap64 ((IntKind.u64.wrap a.f0).tmod 12) = 1 from hK]
  clear a0 hK
  generalize w.alloc (.cells #[.int .i64 a.f0, .int .i64 a.f1, .string a.f2] 55 (0, 0)) = W0 at BA HEV HBW HS0 ⊢
  generalize w.heap.size = ga at BA HF9 ⊢
  have a1 : W0.cell? ⟨ga, 1, none⟩ = some (.int .i64 a.f1) := (blk_cell BA.out 1).trans rfl
  have a2 : W0.cell? ⟨ga, 2, none⟩ = some (.string a.f2) := (blk_cell BA.out 2).trans rfl
  have HE : Aside0 (Ends b W0 g L) := ⟨⟨f, _, _, _, _, _, _, _, HEV.out⟩⟩
  obtain ⟨y1, y2, y3, y4, y5, y6, y7⟩ := y
  have HK := Aside0.mk hk
  have HLC := Aside0.mk hlc
  clear hk hlc
  go_wp2_with fail
  (with_reducible refine (ends_puts0.calls k b g L a.f2 y1 y2 y3 y4 y5 y6 y7 _ HE.out HS0.out HLC.out HK.out).mono ?_)
  rintro e w1 ⟨rfl, he, hb⟩
  go_wp2
  refine bodyPost_ret (results_none rfl _ _ _) rfl ?_
  exact ⟨rfl, he, HBW.out.trans hb⟩
set_option maxHeartbeats 4000000 in
set_option maxRecDepth 100000 in
theorem ends_act_p2.calls (k b g : Nat) (L : LS) (a : S55) (w : World) (h : Ends b w g L) (hb : b ≤ w.heap.size) (hK : actK a = 2) (y : Int × Int × Int × List ByteArray × Int × ByteArray × Int) (hlc : L.p1.length ≤ 1000) (hk : link_Put.f k L.x1.f0 L.x1.f1 L.x1.f2 L.x1.f3 L.x1.f4 a.f2 = some y) :
    Calls Try.prog 25 #[.pointer (some ⟨g, 0, none⟩), .agg #[.int .i64 a.f0, .int .i64 a.f1, .string a.f2]] w fun e w' => e = .returned (.tuple #[]) ∧ Ends b w' g (L.puts1 a.f2 y) ∧ Below b w w' := by
  obtain ⟨f, v0, v1, vn, q0, q1, r0, r1, h⟩ := h
  have hba := below_alloc (Below.refl w.heap.size w) (.cells #[.int .i64 a.f0, .int .i64 a.f1, .string a.f2] 55 (0, 0))
  have BA := Aside0.mk (blk_new w (.cells #[.int .i64 a.f0, .int .i64 a.f1, .string a.f2] 55 (0, 0)))
  have HEV := Aside0.mk (h.fresh hba 9)
  have HF9 : Aside0 (tagf f w.heap.size 9 w.heap.size = 9) := ⟨by unfold tagf; rw [if_pos (Nat.le_refl _)]⟩
  generalize tagf f w.heap.size 9 = f at HEV HF9
  have HBW := Aside0.mk (hba.mono hb)
  have HS0 := Aside0.mk (Nat.le_trans hb hba.size)
  have a0 := blk_cell BA.out 0
  clear h hba hb
  go_enter Try.func25, Try.ntmps25
  go_upto_region 2 with (fail)
  rw [show wrap64 ((IntKind.u64.wrap a.f0).tmod 12) = 2 from hK]
  clear a0 hK
  generalize w.alloc (.cells #[.int .i64 a.f0, .int .i64 a.f1, .string a.f2] 55 (0, 0)) = W0 at BA HEV HBW HS0 ⊢
  generalize w.heap.size = ga at BA HF9 ⊢
  have a1 : W0.cell? ⟨ga, 1, none⟩ = some (.int .i64 a.f1) := (blk_cell BA.out 1).trans rfl
  have a2 : W0.cell? ⟨ga, 2, none⟩ = some (.string a.f2) := (blk_cell BA.out 2).trans rfl
  have HE : Aside0 (Ends b W0 g L) := ⟨⟨f, _, _, _, _, _, _, _, HEV.out⟩⟩
  obtain ⟨y1, y2, y3, y4, y5, y6, y7⟩ := y
  have HK := Aside0.mk hk
  have HLC := Aside0.mk hlc
  clear hk hlc
  go_wp2_with fail
  (with_reducible refine (ends_puts1.calls k b g L a.f2 y1 y2 y3 y4 y5 y6 y7 _ HE.out HS0.out HLC.out HK.out).mono ?_)
  rintro e w1 ⟨rfl, he, hb⟩
  go_wp2
  refine bodyPost_ret (results_none rfl _ _ _) rfl ?_
  exact ⟨rfl, he, HBW.out.trans hb⟩
end Go.Proofs.Ytgfmdfgibkkfaaa.P
