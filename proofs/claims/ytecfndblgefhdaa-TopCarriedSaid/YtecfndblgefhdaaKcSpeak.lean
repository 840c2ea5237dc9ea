import Derived.Test.YtecfndblgefhdaaKcHParse
set_option linter.unusedVariables false
set_option linter.unusedSimpArgs false
namespace Go.Proofs.Ytecfndblgefhdaa.P
open Go.RowKit Go.Proofs.YtecfndblgefhdaaW.PrintWords Go.Proofs.YtecfndblgefhdaaW.PrintLast Go.Proofs.YtecfndblgefhdaaW.PrintMore
attribute [local go_sem] max2_int min2_int max_two min_two max_three min_three max_four min_four
theorem new1 : link_New.f 1 = some (1, 0, 1, [], 1, 0) := by rfl
structure Speaks (k : Nat) (s q t : ByteArray) (x : S53) : Prop where
 b : msg_Bytes.f k 9 2 [] 0 0 0 false [] 0 [] [] 0 0 [] = some (s, 0)
 c : seg_Cut.f k s 508 = some ([q], 0)
 p : link_Put.f k 1 0 1 [] 1 s = some (1, 0, 1, [s], 1, t, 0)
 z : t.size = s.size + 39
 sz : s.size ≤ 1000
 m : msg_Parse.f k s = some x
 e : x.f1 = 2
theorem bytes0.calls (k : Nat) (s : ByteArray) (w : World) (h : msg_Bytes.f k 9 2 [] 0 0 0 false [] 0 [] [] 0 0 [] = some (s, 0)) :
  Calls Try.prog 10 #[.agg #[.int .i64 9, .int .i64 2, .slice none 0 0, .int .i64 0, .int .i64 0, .int .i64 0, .bool false, .slice none 0 0, .int .i64 0, .slice none 0 0, .slice none 0 0, .int .i64 0, .int .i64 0, .slice none 0 0]] w fun e w' => e = .returned (.tuple #[.string s, .int .i64 0]) ∧ Below w.heap.size w w' :=
 msg_Bytes.calls k 9 2 none 0 [] 0 0 0 false none 0 [] 0 none 0 [] none 0 [] 0 0 none 0 [] s 0 _ (Kd.C_nil _ _) (Nat.le_refl _) (Kd.C_nil _ _) (Nat.le_refl _) (Kd.C_nil _ _) (Nat.le_refl _) (Kd.C_nil _ _) (Nat.le_refl _) (Kd.C_nil _ _) (Nat.le_refl _) h
theorem put0.calls (k : Nat) (A3 : Option Addr) (c3 : Nat) (s p : ByteArray) (w : World) (hr : Kd.C Kd.string w A3 ([] : List ByteArray).length []) (h : link_Put.f k 1 0 1 [] 1 s = some (1, 0, 1, [s], 1, p, 0)) :
  Calls Try.prog 43 #[.agg #[.int .i64 1, .int .i64 0, .int .i64 1, .slice A3 0 c3, .int .i64 1], .string s] w fun e w' => ∃ v3_ : Value, e = .returned (.tuple #[.agg #[.int .i64 1, .int .i64 0, .int .i64 1, v3_, .int .i64 1], .string p, .int .i64 0]) ∧ Kd.R Kd.string 9 w' w.heap.size (fun _ => True) v3_ [s] ∧ Below w.heap.size w w' :=
 link_Put.calls k 1 0 1 A3 c3 [] 1 s 1 0 1 [s] 1 p 0 w hr (Nat.zero_le _) h
set_option maxHeartbeats 8000000 in
set_option maxRecDepth 100000 in
theorem counterfoiltop_speaks.calls (k : Nat) (s q p : ByteArray) (m : S53) (w : World) (h : Speaks k s q p m) :
  Calls Try.prog 11 #[] w fun e w' => e = .returned (.bool true) ∧ Below w.heap.size w w' := by
 have H := a0_ h
 clear h
 go_enter Try.func11, Try.ntmps11
 go_wp2_with fail
 (with_reducible refine (bytes0.calls k s _ H.out.b).mono ?_)
 rintro e w1 ⟨rfl, hb1⟩
 have HB1 := a0_ hb1
 clear hb1
 go_wp2_with fail
 (with_reducible refine (seg_Cut.calls k s 508 [q] 0 _ H.out.c).mono ?_)
 rintro e w2 ⟨v2, rfl, h2, hb2⟩
 obtain ⟨A2, c2, rfl⟩ := Kd.R_slice h2
 have HB2 := a0_ (below_step HB1.out hb2)
 clear hb2 h2 HB1
 go_wp2_with fail
 (with_reducible refine (link_New.calls 1 1 0 1 [] 1 0 _ new1).mono ?_)
 rintro e w3 ⟨v3, rfl, h3, hb3⟩
 obtain ⟨A3, c3, rfl⟩ := Kd.R_slice h3
 have HB3 := a0_ (below_step HB2.out hb3)
 have HR3 := a0_ h3
 clear hb3 h3 HB2
 have HB4 := a0_ (below_alloc HB3.out (.cells #[.int .i64 1, .int .i64 0, .int .i64 1, .slice A3 0 c3, .int .i64 1] 26 (0, 0)))
 have BX := a0_ (blk_new w3 (.cells #[.int .i64 1, .int .i64 0, .int .i64 1, .slice A3 0 c3, .int .i64 1] 26 (0, 0)))
 have HR4 := a0_ (Kd.R_below (Kd.R_bound HR3.out) (below_alloc (Below.refl _ _) (.cells #[.int .i64 1, .int .i64 0, .int .i64 1, .slice A3 0 c3, .int .i64 1] 26 (0, 0))))
 clear HR3
 go_upto_region 4 with (fail)
 generalize w3.alloc (.cells #[.int .i64 1, .int .i64 0, .int .i64 1, .slice A3 0 c3, .int .i64 1] 26 (0, 0)) = w4 at HB4 BX HR4 ⊢
 generalize w3.heap.size = gx at BX ⊢
 have a0 : w4.cell? ⟨gx, 0, none⟩ = some (.int .i64 1) := (blk_cell BX.out 0).trans rfl
 have a1 : w4.cell? ⟨gx, 1, none⟩ = some (.int .i64 0) := (blk_cell BX.out 1).trans rfl
 have a2 : w4.cell? ⟨gx, 2, none⟩ = some (.int .i64 1) := (blk_cell BX.out 2).trans rfl
 have a3 : w4.cell? ⟨gx, 3, none⟩ = some (.slice A3 0 c3) := (blk_cell BX.out 3).trans rfl
 have a4 : w4.cell? ⟨gx, 4, none⟩ = some (.int .i64 1) := (blk_cell BX.out 4).trans rfl
 clear HB3
 go_wp2_with fail
 (with_reducible refine (put0.calls k A3 c3 s p _ (Kd.R_reads' HR4.out).2.2 H.out.p).mono ?_)
 rintro e w5 ⟨v5, rfl, h5, hb5⟩
 obtain ⟨A5, c5, rfl⟩ := Kd.R_slice h5
 have HB5 := a0_ (below_step HB4.out hb5)
 clear hb5 h5 HB4 a0 a1 a2 a3 a4 HR4 BX
 have HB6 := a0_ (below_alloc HB5.out (.cells #[.int .i64 1, .int .i64 0, .int .i64 1, .slice A5 1 c5, .int .i64 1] 26 (0, 0)))
 go_upto_region 5 with (fail)
 generalize w5.alloc (.cells #[.int .i64 1, .int .i64 0, .int .i64 1, .slice A5 1 c5, .int .i64 1] 26 (0, 0)) = w6 at HB6 ⊢
 clear HB5
 go_wp2_with fail
 (with_reducible refine (msg_Parse.calls k s m _ H.out.m).mono ?_)
 rintro e w7 ⟨cs, rfl, hk7, hb7⟩
 obtain ⟨A2m, c2m, A7, c7, A9, c9, A10, c10, A13, c13, rfl, _⟩ := k53_open hk7
 have HB7 := a0_ (below_step HB6.out hb7)
 clear hb7 hk7 HB6
 have e2 := H.out.e
 rw [e2]
 have HB8 := a0_ (below_alloc HB7.out (.cells #[.int .i64 m.f0, .int .i64 2, .slice A2m m.f2.length c2m, .int .i64 m.f3, .int .i64 m.f4, .int .i64 m.f5, .bool m.f6, .slice A7 m.f7.f0.length c7, .int .i64 m.f7.f1, .slice A9 m.f8.length c9, .slice A10 m.f9.length c10, .int .i64 m.f10.f0, .int .i64 m.f10.f1, .slice A13 m.f10.f2.length c13] 53 (0, 0)))
 have BM := a0_ (blk_new w7 (.cells #[.int .i64 m.f0, .int .i64 2, .slice A2m m.f2.length c2m, .int .i64 m.f3, .int .i64 m.f4, .int .i64 m.f5, .bool m.f6, .slice A7 m.f7.f0.length c7, .int .i64 m.f7.f1, .slice A9 m.f8.length c9, .slice A10 m.f9.length c10, .int .i64 m.f10.f0, .int .i64 m.f10.f1, .slice A13 m.f10.f2.length c13] 53 (0, 0)))
 go_upto_region 6 with (fail)
 generalize w7.alloc (.cells #[.int .i64 m.f0, .int .i64 2, .slice A2m m.f2.length c2m, .int .i64 m.f3, .int .i64 m.f4, .int .i64 m.f5, .bool m.f6, .slice A7 m.f7.f0.length c7, .int .i64 m.f7.f1, .slice A9 m.f8.length c9, .slice A10 m.f9.length c10, .int .i64 m.f10.f0, .int .i64 m.f10.f1, .slice A13 m.f10.f2.length c13] 53 (0, 0)) = w8 at HB8 BM ⊢
 generalize w7.heap.size = gm at BM ⊢
 have y1 : w8.cell? ⟨gm, 1, none⟩ = some (.int .i64 2) := (blk_cell BM.out 1).trans rfl
 have z1 : wrap64 ((s.size : Int) + 39) = (p.size : Int) := by
  have := H.out.z
  have := H.out.sz
  unfold wrap64
  omega
 clear HB7 BM
 go_wp2
 go_ret
 exact ⟨rfl, HB8.out⟩
end Go.Proofs.Ytecfndblgefhdaa.P
namespace Go.Proofs.Ytecfndblgefhdaa.P
open Go.RowKit Go.Proofs.YtecfndblgefhdaaW.PrintWords Go.Proofs.YtecfndblgefhdaaW.PrintLast Go.Proofs.YtecfndblgefhdaaW.PrintMore
attribute [local go_sem] max2_int min2_int max_two min_two max_three min_three max_four min_four
def kindT (a : S42) : Int := wrap64 ((IntKind.u64.wrap a.f0).tmod 10)
def cutT (c : Int) : Int := wrap64 (1 + wrap64 ((IntKind.u64.wrap c).tmod 508))
def RS.init (c : Int) : RS := ⟨cutT c, ⟨1, 0, 1, [], 1⟩, ⟨1, 0, 1, [], 1⟩, [], 0, [], 0, [], []⟩
def goTurns (k : Nat) (l : List S53) : List S42 → Nat → RS → RS → Prop
 | [], _, L, Z => L = Z
 | a :: r, n, L, Z => if n = 0 ∨ 300 ≤ L.net.length then L = Z else ∃ L1, L.act k l (kindT a) a.f1 = some L1 ∧ L1.texts <+: L1.want ∧ goTurns k l r (n - 1) L1 Z
def flowT (k : Nat) (l : List S53) : Nat → RS → Option RS
 | 0, L => some L
 | n + 1, L => if L.net = [] then some L else (L.act k l 3 0).bind (flowT k l n)
def roundsT (k : Nat) (l : List S53) : Nat → RS → Option RS
 | 0, L => some L
 | n + 1, L => ((RS.act k l 1 0 { L with net := [] }).bind (flowT k l 20)).bind (roundsT k l n)
def backT (k : Nat) (s : ByteArray) : Prop := ∃ m, msg_Parse.f k s = some m ∧ msg_Bytes.f k m.f0 m.f1 m.f2 m.f3 m.f4 m.f5 m.f6 m.f7.f0 m.f7.f1 m.f8 m.f9 m.f10.f0 m.f10.f1 m.f10.f2 = some (s, 0)
def endT (k : Nat) (L : RS) : Prop := L.texts = L.want ∧ (∀ s ∈ L.want, backT k s) ∧ ∃ s q p m, Speaks k s q p m
def carried (k : Nat) (l : List S53) (c : Int) (ts : List S42) : Prop := ∃ Z Y, goTurns k l ts 150 (RS.init c) Z ∧ roundsT k l 40 Z = some Y ∧ endT k Y
open Classical in
noncomputable def counterfoiltop_TopCarried.f (k : Nat) (l0 : List S53) (a1 : Int) (l2 : List S42) : Option Bool := if carried k l0 a1 l2 then some true else none
theorem RV.start {b g n0 : Nat} {W : World} {L : RS} {vl v0 v1 : Value} (hblk : W.heap[g]? = some (.cells (cellsR L vl v0 v1 (.slice none 0 0) (.slice none 0 0) (.slice none 0 0) (.slice none 0 0)) 39 (0, 0))) (hb : b ≤ g) (hn : n0 ≤ g)
  (h0 : Kd.Q Kd.string 9 W b (fun k => k < n0) v0 L.x0.f3) (h1 : Kd.Q Kd.string 9 W b (fun k => n0 ≤ k ∧ k < g) v1 L.x1.f3) (e1 : L.net = []) (e2 : L.want = []) (e3 : L.jl = []) (e4 : L.texts = []) :
  RV b W g L (fun k => if k = g then 7 else if k < n0 then 0 else 1) vl v0 v1 (.slice none 0 0) (.slice none 0 0) (.slice none 0 0) (.slice none 0 0) := by
 refine ⟨hblk, hb, if_pos rfl, Kd.Q_mono h0 (fun k hk => ?_), Kd.Q_mono h1 (fun k hk => ?_), ?_, ?_, ?_, ?_⟩
 ·rw [if_neg z2_, if_pos hk]
 ·rw [if_neg z2_, if_neg z2_]
 ·rw [e1]; exact Kd.R_nil _ _ _ _ _
 ·rw [e2]; exact Kd.R_nil _ _ _ _ _
 ·rw [e3]; exact Kd.R_nil _ _ _ _ _
 ·rw [e4]; exact Kd.R_nil _ _ _ _ _
theorem RV.roadF {b g : Nat} {W : World} {L : RS} {f : Nat → Nat} {vl v0 v1 vn vw vj vt : Value} (h : RV b W g L f vl v0 v1 vn vw vj vt) : RoadF b W g L vl f := ⟨_, _, _, _, _, _, h⟩
set_option maxHeartbeats 8000000 in
set_option maxRecDepth 100000 in
theorem counterfoiltop_TopCarried.calls (k : Nat) (A0 : Option Addr) (c0 : Nat) (l0 : List S53) (a1 : Int) (A2 : Option Addr) (c2 : Nat) (l2 : List S42) (r : Bool) (w : World) (hr0 : Kd.C k53 w A0 l0.length l0) (hc0 : l0.length ≤ c0) (hr2 : Kd.C k42 w A2 l2.length l2) (hc2 : l2.length ≤ c2) (hr_ : r = true) (h : counterfoiltop_TopCarried.f k l0 a1 l2 = some r) :
  Calls Try.prog 3 #[.slice A0 l0.length c0, .int .i64 a1, .slice A2 l2.length c2] w fun e w' => e = .returned (.bool r) ∧ Below w.heap.size w w' := by
 subst hr_
 have hk : carried k l0 a1 l2 := by
  unfold counterfoiltop_TopCarried.f at h
  by_cases c : carried k l0 a1 l2
  ·exact c
  ·rw [if_neg c] at h; cases h
 obtain ⟨Z, Y, t1, t2, t3⟩ := hk
 have HR0 := a0_ hr0
 have HR2 := a0_ hr2
 have HC0 := a0_ hc0
 have hmax : l2.length ≤ 9223372036854775807 := hr2.2.1
 have H0 : Aside0 (goTurns k l0 (l2.drop 0) (150 - 0) (RS.init a1) Z) := ⟨t1⟩
 have T2 := a0_ t2
 have T3 := a0_ t3
 clear hr0 hr2 hc0 hc2 h t1 t2 t3
 go_enter Try.func3, Try.ntmps3
 go_wp2_with fail
 (with_reducible refine (link_New.calls 1 1 0 1 [] 1 0 _ new1).mono ?_)
 rintro e w1 ⟨v3, rfl, h3, hb1⟩
 obtain ⟨A3, c3, rfl⟩ := Kd.R_slice h3
 have HX := a0_ h3
 have HB1 := a0_ hb1
 have HB2 := a0_ (below_alloc hb1 (.cells #[.int .i64 1, .int .i64 0, .int .i64 1, .slice A3 0 c3, .int .i64 1] 26 (0, 0)))
 have BX := a0_ (blk_new w1 (.cells #[.int .i64 1, .int .i64 0, .int .i64 1, .slice A3 0 c3, .int .i64 1] 26 (0, 0)))
 have HS1 := a0_ (Below.size (below_alloc (Below.refl w1.heap.size w1) (.cells #[.int .i64 1, .int .i64 0, .int .i64 1, .slice A3 0 c3, .int .i64 1] 26 (0, 0))))
 clear hb1 h3
 go_upto_region 2 with (fail)
 have HQ : Aside0 (Below w1.heap.size w1 (w1.alloc (.cells #[.int .i64 1, .int .i64 0, .int .i64 1, .slice A3 0 c3, .int .i64 1] 26 (0, 0)))) := ⟨below_alloc (Below.refl _ _) _⟩
 generalize w1.alloc (.cells #[.int .i64 1, .int .i64 0, .int .i64 1, .slice A3 0 c3, .int .i64 1] 26 (0, 0)) = w2 at HB2 BX HS1 HQ ⊢
 go_wp2_with fail
 (with_reducible refine (link_New.calls 1 1 0 1 [] 1 0 _ new1).mono ?_)
 rintro e w3 ⟨v4, rfl, h4, hb3⟩
 obtain ⟨A4, c4, rfl⟩ := Kd.R_slice h4
 have HY := a0_ h4
 have HB3 := a0_ hb3
 have HB4 := a0_ (below_alloc hb3 (.cells #[.int .i64 1, .int .i64 0, .int .i64 1, .slice A4 0 c4, .int .i64 1] 26 (0, 0)))
 have BY := a0_ (blk_new w3 (.cells #[.int .i64 1, .int .i64 0, .int .i64 1, .slice A4 0 c4, .int .i64 1] 26 (0, 0)))
 have HQ4 : Aside0 (Below w3.heap.size w3 (w3.alloc (.cells #[.int .i64 1, .int .i64 0, .int .i64 1, .slice A4 0 c4, .int .i64 1] 26 (0, 0)))) := ⟨below_alloc (Below.refl _ _) _⟩
 clear hb3 h4
 go_upto_region 3 with (fail)
 generalize w3.alloc (.cells #[.int .i64 1, .int .i64 0, .int .i64 1, .slice A4 0 c4, .int .i64 1] 26 (0, 0)) = w4 at HB4 BY HQ4 ⊢
 have BX4 := a0_ (blk_below BX.out HB4.out)
 generalize hgx : w1.heap.size = gx at BX4 ⊢
 generalize hgy : w3.heap.size = gy at BY ⊢
 have HGX := a0_ (And.intro hgx hgy)
 clear hgx hgy BX
 have a0 : w4.cell? ⟨gx, 0, none⟩ = some (.int .i64 1) := (blk_cell BX4.out 0).trans rfl
 have a1' : w4.cell? ⟨gx, 1, none⟩ = some (.int .i64 0) := (blk_cell BX4.out 1).trans rfl
 have a2 : w4.cell? ⟨gx, 2, none⟩ = some (.int .i64 1) := (blk_cell BX4.out 2).trans rfl
 have a3 : w4.cell? ⟨gx, 3, none⟩ = some (.slice A3 0 c3) := (blk_cell BX4.out 3).trans rfl
 have a4 : w4.cell? ⟨gx, 4, none⟩ = some (.int .i64 1) := (blk_cell BX4.out 4).trans rfl
 have d0 : w4.cell? ⟨gy, 0, none⟩ = some (.int .i64 1) := (blk_cell BY.out 0).trans rfl
 have d1 : w4.cell? ⟨gy, 1, none⟩ = some (.int .i64 0) := (blk_cell BY.out 1).trans rfl
 have d2 : w4.cell? ⟨gy, 2, none⟩ = some (.int .i64 1) := (blk_cell BY.out 2).trans rfl
 have d3 : w4.cell? ⟨gy, 3, none⟩ = some (.slice A4 0 c4) := (blk_cell BY.out 3).trans rfl
 have d4 : w4.cell? ⟨gy, 4, none⟩ = some (.int .i64 1) := (blk_cell BY.out 4).trans rfl
 go_upto_region 6 with (fail)
 obtain ⟨hgx, hgy⟩ := HGX.out
 have HBR := below_alloc (Below.refl w4.heap.size w4) (.cells #[.slice A0 l0.length c0, .int .i64 (cutT a1), .int .i64 1, .int .i64 0, .int .i64 1, .slice A3 0 c3, .int .i64 1, .int .i64 1, .int .i64 0, .int .i64 1, .slice A4 0 c4, .int .i64 1, .slice none 0 0, .int .i64 0, .slice none 0 0, .int .i64 0, .slice none 0 0, .slice none 0 0] 39 (0, 0))
 have n1 := HB1.out.size
 have n2 := HS1.out
 have n3 := HB3.out.size
 have n4 := HQ4.out.size
 have HE0 : Aside0 (Road w.heap.size (w4.alloc (.cells #[.slice A0 l0.length c0, .int .i64 (cutT a1), .int .i64 1, .int .i64 0, .int .i64 1, .slice A3 0 c3, .int .i64 1, .int .i64 1, .int .i64 0, .int .i64 1, .slice A4 0 c4, .int .i64 1, .slice none 0 0, .int .i64 0, .slice none 0 0, .int .i64 0, .slice none 0 0, .slice none 0 0] 39 (0, 0))) w4.heap.size (RS.init a1) (.slice A0 l0.length c0)) := by
  refine ⟨⟨_, .slice A3 0 c3, .slice A4 0 c4, _, _, _, _, RV.start (n0 := w2.heap.size) (blk_new w4 (.cells #[.slice A0 l0.length c0, .int .i64 (cutT a1), .int .i64 1, .int .i64 0, .int .i64 1, .slice A3 0 c3, .int .i64 1, .int .i64 1, .int .i64 0, .int .i64 1, .slice A4 0 c4, .int .i64 1, .slice none 0 0, .int .i64 0, .slice none 0 0, .int .i64 0, .slice none 0 0, .slice none 0 0] 39 (0, 0))) z2_ z2_ ?_ ?_ rfl rfl rfl rfl⟩⟩
  ·exact Kd.Q_mono (Kd.Q_below (Kd.Q_bound (Kd.Q_below (Kd.Q_bound (Kd.Q_of_R HX.out)) (below_step HQ.out HB4.out))) HBR) (fun k hk => by have := hk.1.2.2.1; omega)
  ·exact Kd.Q_mono (Kd.Q_below (Kd.Q_bound (Kd.Q_below (Kd.Q_lower (Kd.Q_bound (Kd.Q_of_R HY.out)) z2_) HQ4.out)) HBR) (fun k hk => by have h1 := hk.1.2.1; have h2 := hk.1.2.2.1; omega)
 have HW0 : Aside0 (Below w.heap.size w (w4.alloc (.cells #[.slice A0 l0.length c0, .int .i64 (cutT a1), .int .i64 1, .int .i64 0, .int .i64 1, .slice A3 0 c3, .int .i64 1, .int .i64 1, .int .i64 0, .int .i64 1, .slice A4 0 c4, .int .i64 1, .slice none 0 0, .int .i64 0, .slice none 0 0, .int .i64 0, .slice none 0 0, .slice none 0 0] 39 (0, 0)))) := ⟨below_alloc (below_step HB2.out HB4.out) _⟩
 have HS0 : Aside0 (w.heap.size ≤ (w4.alloc (.cells #[.slice A0 l0.length c0, .int .i64 (cutT a1), .int .i64 1, .int .i64 0, .int .i64 1, .slice A3 0 c3, .int .i64 1, .int .i64 1, .int .i64 0, .int .i64 1, .slice A4 0 c4, .int .i64 1, .slice none 0 0, .int .i64 0, .slice none 0 0, .int .i64 0, .slice none 0 0, .slice none 0 0] 39 (0, 0))).heap.size) := ⟨HW0.out.size⟩
 clear HBR n1 n2 n3 n4 hgx hgy a0 a1' a2 a3 a4 d0 d1 d2 d3 d4 HX HY HB1 HB2 HS1 HQ HB3 HB4 HQ4 BX4 BY HGX
 show Code.wp _ _ _ _ (w4.alloc (.cells #[.slice A0 l0.length c0, .int .i64 (cutT a1), .int .i64 1, .int .i64 0, .int .i64 1, .slice A3 0 c3, .int .i64 1, .int .i64 1, .int .i64 0, .int .i64 1, .slice A4 0 c4, .int .i64 1, .slice none 0 0, .int .i64 0, .slice none 0 0, .int .i64 0, .slice none 0 0, .slice none 0 0] 39 (0, 0)))
 generalize w4.alloc (.cells #[.slice A0 l0.length c0, .int .i64 (cutT a1), .int .i64 1, .int .i64 0, .int .i64 1, .slice A3 0 c3, .int .i64 1, .int .i64 1, .int .i64 0, .int .i64 1, .slice A4 0 c4, .int .i64 1, .slice none 0 0, .int .i64 0, .slice none 0 0, .int .i64 0, .slice none 0 0, .slice none 0 0] 39 (0, 0)) = w5 at HE0 HW0 HS0 ⊢
 generalize w4.heap.size = g at HE0 ⊢
 obtain ⟨b, hbs⟩ : ∃ b, b = w.heap.size := ⟨_, rfl⟩
 rw [← hbs] at HE0 HW0 HS0
 have HBS := a0_ hbs
 clear hbs
 go_upto_block 0 with (fail)
 go_cut [] (fun wc => Aside0 (Road b wc g Z (.slice A0 l0.length c0)) ∧ Aside0 (Below b w wc) ∧ Aside0 (b ≤ wc.heap.size))
 case first =>
  go_wp2
  go_loopw [12] (fun i wr => ∃ j : Nat, j ≤ l2.length ∧ j ≤ 150 ∧ i = .int .i64 j ∧ Aside0 (∃ L, Road b wr g L (.slice A0 l0.length c0) ∧ goTurns k l0 (l2.drop j) (150 - j) L Z) ∧ Aside0 (Below b w wr) ∧ Aside0 (b ≤ wr.heap.size)) (fun i _ => 150 - (intOf i).toNat)
  case atStart => exact ⟨0, Nat.zero_le _, z2_, rfl, ⟨⟨_, HE0.out, H0.out⟩⟩, HW0, HS0⟩
  case round =>
   clear HE0 HW0 HS0 H0
   obtain ⟨j, hj, hj150, rfl, HL, HW, HS⟩ := hrel
   obtain ⟨L, ⟨f, v0, v1, vn, vw, vj, vt, hev⟩, hO⟩ := HL.out
   clear HL
   obtain ⟨An, cn, hvn, hnc, hC⟩ := Kd.R_reads hev.hn
   subst hvn
   have hmax2 : L.net.length ≤ 9223372036854775807 := hC.2.1
   have x12 : wr.cell? ⟨g, 12, none⟩ = some (.slice An L.net.length cn) := (hev.cell 12).trans rfl
   have HE : Aside0 (RoadF b wr g L (.slice A0 l0.length c0) f) := ⟨⟨_, _, _, _, _, _, hev⟩⟩
   clear hnc hC hev
   by_cases hj2 : j < l2.length
   ·have c1 : decide ((j : Int) < (l2.length : Int)) = true := decide_eq_true z2_
    rw [List.drop_eq_getElem_cons hj2, goTurns] at hO
    by_cases hj3 : j < 150
    ·have c2 : decide ((j : Int) < 150) = true := decide_eq_true z2_
     by_cases hn3 : L.net.length < 300
     ·have c3 : decide ((L.net.length : Int) < 300) = true := decide_eq_true z2_
      have c4 : decide (L.net.length < 300) = true := decide_eq_true hn3
      rw [if_neg z2_] at hO
      obtain ⟨L1, hL1, hp1, hO⟩ := hO
      have d1 : (0 : Int) ≤ (j : Int) := by omega
      have d2 : (j : Int) < (l2.length : Int) := by omega
      obtain ⟨ad, hA, z0, z1⟩ := at_T42 HR2.out (j : Int) d1 d2
      subst hA
      rw [Int.toNat_natCast] at z0 z1
      have hb2 : Below w.heap.size w wr := by rw [← HBS.out]; exact HW.out
      replace z0 := (hb2.cell (World.block_lt_of_cell? w _ z0)).trans z0
      replace z1 := (hb2.cell (World.block_lt_of_cell? w _ z1)).trans z1
      clear hb2
      have hrd : rd_T42 l2 (j : Int) = l2[j] := by
       unfold rd_T42
       rw [Int.toNat_natCast, List.getD_eq_getElem?_getD, List.getElem?_eq_getElem hj2]
       rfl
      rw [hrd] at z0 z1
      clear hrd
      generalize l2[j] = a at z0 z1 hL1
      unfold kindT at hL1
      have HL1 := a0_ hL1
      have HP1 := a0_ hp1
      have HO := a0_ hO
      clear hL1 hp1 hO
      have HZ := a0_ (And.intro z0 z1)
      go_upto_region 9 with (fail)
      replace HE := a0_ HE.out.drew
      replace HW := a0_ (below_drew1 HW.out)
      replace HS : Aside0 (b ≤ (World.drew wr).heap.size) := HS
      refine st_ 15 (S := fun w' => w'.cell? (ad.add (j * 2)) = some (.int .i64 a.f0) ∧ w'.cell? ⟨(ad.add (j * 2)).block, (ad.add (j * 2)).off + 1, none⟩ = some (.int .i64 a.f1)) (ds := [14]) ⟨HZ.out.1, HZ.out.2⟩ (fun hHeld => ?_)
      generalize World.drew wr = V at HE HW HS hHeld ⊢
      refine pu_ 0 (some 63) rfl rfl ?_
      refine pu_ 1 (some 64) rfl rfl ?_
      refine pu_ 2 (some 65) rfl rfl ?_
      refine pu_ 3 (some 66) rfl rfl ?_
      refine pu_ 4 (some 67) rfl rfl ?_
      refine pu_ 9 (some 72) rfl rfl ?_
      refine pu_ 10 (some 73) rfl rfl ?_
      refine pu_ 11 (some 74) rfl rfl ?_
      refine pu_ 12 (some 75) rfl rfl ?_
      refine ta_ 5 (some 68) rfl rfl hHeld ?_
      refine pu_ 6 (some 69) rfl rfl ?_
      refine pu_ 7 (some 70) rfl rfl ?_
      refine pu_ 8 (some 71) rfl rfl ?_
      refine ta_ 13 (some 76) rfl rfl hHeld ?_
      refine la_ 14 (some 77) rfl rfl (fun K hK => ?_)
      refine goes_ Try.func7 z11_ rfl #[.pointer (some ⟨g, 0, none⟩), .int .i64 (wrap64 ((IntKind.u64.wrap a.f0).tmod 10)), .int .i64 a.f1] (by rfl) rfl rfl z107_ ?_
      with_reducible refine (road_act.calls k b g l0 A0 c0 L L1 f (wrap64 ((IntKind.u64.wrap a.f0).tmod 10)) a.f1 w _ HBS.out HE.out HS.out HW.out HR0.out HC0.out HL1.out).mono ?_
      rintro e w6 ⟨rfl, he6, hb6⟩
      refine ⟨_, rfl, ?_⟩
      refine hK.out _ _ ?_
      clear hK K
      refine norm_ (a' := ?_) ?_ ?_
      rotate_left
      ·show Act.put _ (some 77) _ = _
       exact put_
      refine done_ z11_ ?_
      obtain ⟨f6, he6⟩ := he6
      have HE6 := a0_ he6
      have HW6 : Aside0 (Below b w w6) := ⟨HW.out.trans hb6⟩
      have HS6 : Aside0 (b ≤ w6.heap.size) := ⟨Nat.le_trans HS.out hb6.size⟩
      clear he6 hb6 HE HW HS x12 z0 z1 c1 c2 c3 c4 d1 d2 HZ
      go_wp2_with fail
      (with_reducible refine (road_begins.calls b g L1 (.slice A0 l0.length c0) f6 _ HE6.out HP1.out).mono ?_)
      rintro e w7 ⟨rfl, he7, hb7⟩
      have HE7 : Aside0 (∃ L, Road b w7 g L (.slice A0 l0.length c0) ∧ goTurns k l0 (l2.drop (j + 1)) (150 - (j + 1)) L Z) := ⟨⟨L1, ⟨f6, he7⟩, by rw [show 150 - (j + 1) = 150 - j - 1 from z2_]; exact HO.out⟩⟩
      have HW7 : Aside0 (Below b w w7) := ⟨HW6.out.trans (hb7.mono HS6.out)⟩
      have HS7 : Aside0 (b ≤ w7.heap.size) := ⟨Nat.le_trans HS6.out hb7.size⟩
      clear he7 hb7 HE6 HW6 HS6 HP1 HO HL1
      go_wp2
      go_roundw
      case rel => exact ⟨j + 1, z2_, z2_, z30_, HE7, HW7, HS7⟩
      case measure => simp [intOf]; omega
     ·have c3 : decide ((L.net.length : Int) < 300) = false := decide_eq_false z2_
      have c4 : decide (L.net.length < 300) = false := decide_eq_false hn3
      rw [if_pos z2_] at hO
      subst hO
      go_wp2
      go_meet
      case rel => exact ⟨⟨f, HE.out⟩, HW, HS⟩
    ·have c2 : decide ((j : Int) < 150) = false := decide_eq_false z2_
     rw [if_pos z2_] at hO
     subst hO
     go_wp2
     go_meet
     case rel => exact ⟨⟨f, HE.out⟩, HW, HS⟩
   ·have c1 : decide ((j : Int) < (l2.length : Int)) = false := decide_eq_false z2_
    rw [List.drop_eq_nil_of_le z2_, goTurns] at hO
    subst hO
    go_wp2
    go_meet
    case rel => exact ⟨⟨f, HE.out⟩, HW, HS⟩
 case rest =>
  clear HE0 HW0 HS0 H0 HR2 hmax
  obtain ⟨HX, HW0, HS0⟩ := hcut
  have HE0 : Aside0 (∃ L, Road b wc g L (.slice A0 l0.length c0) ∧ roundsT k l0 (40 - 0) L = some Y) := ⟨⟨Z, HX.out, T2.out⟩⟩
  clear HX T2
  go_wp2
  go_loopw [13] (fun i wr => ∃ j : Nat, j ≤ 40 ∧ i = .int .i64 j ∧ Aside0 (∃ L, Road b wr g L (.slice A0 l0.length c0) ∧ roundsT k l0 (40 - j) L = some Y) ∧ Aside0 (Below b w wr) ∧ Aside0 (b ≤ wr.heap.size)) (fun i _ => 40 - (intOf i).toNat)
  case atStart => exact ⟨0, z2_, rfl, HE0, HW0, HS0⟩
  case round =>
   clear HE0 HW0 HS0
   obtain ⟨jj, hjj, rfl, HL, HW, HS⟩ := hrel
   obtain ⟨L, ⟨f, v0, v1, vn, vw, vj, vt, hev⟩, hO⟩ := HL.out
   by_cases hj2 : jj < 40
   ·have c1 : decide ((jj : Int) < 40) = true := decide_eq_true z2_
    obtain ⟨m, hm⟩ : ∃ m, m = 40 - (jj + 1) := ⟨_, rfl⟩
    rw [show 40 - jj = m + 1 from z2_, roundsT] at hO
    have HM := a0_ hm
    have hct : wr.cell? ⟨g, 12, none⟩ = some vn := (hev.cell 12).trans rfl
    have hft : wr.frozen? ⟨g, 12, none⟩ = false := hev.frozen 12
    obtain ⟨f', _, hev2⟩ := hev.new_net (W1 := wr) (v := .slice none 0 0) (l := []) (Below.refl _ _) (Kd.R_nil _ _ _ _ _)
    have HE2 : Aside0 (RoadF b (wr.setCell ⟨g, 12, none⟩ (.slice none 0 0)) g { L with net := [] } (.slice A0 l0.length c0) f') := ⟨⟨_, _, _, _, _, _, hev2⟩⟩
    have HW2 : Aside0 (Below b w (wr.setCell ⟨g, 12, none⟩ (.slice none 0 0))) := ⟨HW.out.setCell (p := ⟨g, 12, none⟩) hev.low _⟩
    have HS2 : Aside0 (b ≤ (wr.setCell ⟨g, 12, none⟩ (.slice none 0 0)).heap.size) := ⟨Nat.le_trans HS.out (Below.setCell (p := ⟨g, 12, none⟩) (Below.refl b wr) hev.low (.slice none 0 0)).size⟩
    obtain ⟨L2, hO2, hO⟩ := Option.bind_eq_some_iff.1 hO
    obtain ⟨L1, hL1, hO2⟩ := Option.bind_eq_some_iff.1 hO2
    have HL1 := a0_ hL1
    have HO := a0_ (And.intro hO2 hO)
    clear hO hO2 hL1 hev hev2 HL HW HS hm
    go_upto_region 16 with (fail)
    clear hct hft
    generalize wr.setCell ⟨g, 12, none⟩ (.slice none 0 0) = wa at HE2 HW2 HS2 ⊢
    go_wp2_with fail
    (with_reducible refine (road_act.calls k b g l0 A0 c0 { L with net := [] } L1 f' 1 0 w _ HBS.out HE2.out HS2.out HW2.out HR0.out HC0.out HL1.out).mono ?_)
    rintro e w3 ⟨rfl, he3, hb3⟩
    have HE3 : Aside0 (∃ L, Road b w3 g L (.slice A0 l0.length c0) ∧ (flowT k l0 (20 - 0) L).bind (roundsT k l0 m) = some Y) := ⟨⟨L1, he3, Option.bind_eq_some_iff.2 ⟨L2, HO.out.1, HO.out.2⟩⟩⟩
    have HW3 : Aside0 (Below b w w3) := ⟨HW2.out.trans hb3⟩
    have HS3 : Aside0 (b ≤ w3.heap.size) := ⟨Nat.le_trans HS2.out hb3.size⟩
    clear he3 hb3 HE2 HW2 HS2 HO HL1
    go_wp2
    go_loopw [14] (fun i wr => ∃ j : Nat, j ≤ 20 ∧ i = .int .i64 j ∧ Aside0 (∃ L, Road b wr g L (.slice A0 l0.length c0) ∧ (flowT k l0 (20 - j) L).bind (roundsT k l0 m) = some Y) ∧ Aside0 (Below b w wr) ∧ Aside0 (b ≤ wr.heap.size)) (fun i _ => 20 - (intOf i).toNat)
    case atStart => exact ⟨0, z2_, rfl, HE3, HW3, HS3⟩
    case round =>
     clear HE3 HW3 HS3
     obtain ⟨j, hj, rfl, HL, HW, HS⟩ := hrel
     obtain ⟨L, ⟨f, v0, v1, vn, vw, vj, vt, hev⟩, hO⟩ := HL.out
     clear HL
     obtain ⟨An, cn, hvn, hnc, hC⟩ := Kd.R_reads hev.hn
     subst hvn
     have hmax2 : L.net.length ≤ 9223372036854775807 := hC.2.1
     have x12 : wr.cell? ⟨g, 12, none⟩ = some (.slice An L.net.length cn) := (hev.cell 12).trans rfl
     have HE : Aside0 (RoadF b wr g L (.slice A0 l0.length c0) f) := ⟨⟨_, _, _, _, _, _, hev⟩⟩
     clear hnc hC hev
     obtain ⟨L2, hF, hO⟩ := Option.bind_eq_some_iff.1 hO
     by_cases hj3 : j < 20
     ·have c2 : decide ((j : Int) < 20) = true := decide_eq_true z2_
      rw [show 20 - j = (20 - (j + 1)) + 1 from z2_, flowT] at hF
      by_cases hn : L.net = []
      ·have n1 : decide ((0 : Int) < (L.net.length : Int)) = false := by rw [hn]; rfl
       have n2 : decide (0 < L.net.length) = false := by rw [hn]; rfl
       have n3 : (L.net = []) = True := eq_true hn
       rw [if_pos hn] at hF
       obtain rfl := Option.some.inj hF
       have HL3 : Aside0 (∃ L, Road b wr g L (.slice A0 l0.length c0) ∧ roundsT k l0 (40 - (jj + 1)) L = some Y) := ⟨⟨L, ⟨f, HE.out⟩, by rw [← HM.out]; exact hO⟩⟩
       clear hO hF hn HE
       go_wp2
       go_roundw
       case rel => exact ⟨jj + 1, z2_, z30_, HL3, HW, HS⟩
       case measure => simp [intOf]; omega
      ·have hpos : 0 < L.net.length := List.length_pos_iff.2 hn
       have n1 : decide ((0 : Int) < (L.net.length : Int)) = true := decide_eq_true z2_
       have n2 : decide (0 < L.net.length) = true := decide_eq_true hpos
       have n3 : (L.net = []) = False := eq_false hn
       rw [if_neg hn] at hF
       obtain ⟨L1, hL1, hF⟩ := Option.bind_eq_some_iff.1 hF
       have HL1 := a0_ hL1
       have HO := a0_ (And.intro hF hO)
       clear hF hO hL1 hn hpos
       go_wp2_with fail
       (with_reducible refine (road_act.calls k b g l0 A0 c0 L L1 f 3 0 w _ HBS.out HE.out HS.out HW.out HR0.out HC0.out HL1.out).mono ?_)
       rintro e w3 ⟨rfl, he3, hb3⟩
       have HE3 : Aside0 (∃ L, Road b w3 g L (.slice A0 l0.length c0) ∧ (flowT k l0 (20 - (j + 1)) L).bind (roundsT k l0 m) = some Y) := ⟨⟨L1, he3, Option.bind_eq_some_iff.2 ⟨L2, HO.out.1, HO.out.2⟩⟩⟩
       have HW3 : Aside0 (Below b w w3) := ⟨HW.out.trans hb3⟩
       have HS3 : Aside0 (b ≤ w3.heap.size) := ⟨Nat.le_trans HS.out hb3.size⟩
       clear he3 hb3 HE HW HS HO HL1 x12 n1 n2 n3
       go_wp2
       go_roundw
       case rel => exact ⟨j + 1, z2_, z30_, HE3, HW3, HS3⟩
       case measure => simp [intOf]; omega
     ·have c2 : decide ((j : Int) < 20) = false := decide_eq_false z2_
      rw [show 20 - j = 0 from z2_, flowT] at hF
      obtain rfl := Option.some.inj hF
      have HL3 : Aside0 (∃ L, Road b wr g L (.slice A0 l0.length c0) ∧ roundsT k l0 (40 - (jj + 1)) L = some Y) := ⟨⟨L, ⟨f, HE.out⟩, by rw [← HM.out]; exact hO⟩⟩
      clear hO hF HE
      go_wp2
      go_roundw
      case rel => exact ⟨jj + 1, z2_, z30_, HL3, HW, HS⟩
      case measure => simp [intOf]; omega
   ·have c1 : decide ((jj : Int) < 40) = false := decide_eq_false z2_
    rw [show 40 - jj = 0 from z2_, roundsT] at hO
    obtain rfl := Option.some.inj hO
    have HE := a0_ hev
    clear hev HL hO
    obtain ⟨hT, hB, s, q, p, m, hsp⟩ := T3.out
    obtain ⟨Aw, cw, hvw, _, hCw⟩ := Kd.R_reads HE.out.hw
    obtain ⟨At, ct, hvt, _, _⟩ := Kd.R_reads HE.out.ht
    subst hvw hvt
    have hmw : L.want.length ≤ 9223372036854775807 := hCw.2.1
    have hlen : L.texts.length = L.want.length := by rw [hT]
    have HT := a0_ hT
    have HBK := a0_ hB
    have HSP := a0_ hsp
    clear hCw hT hB hsp T3
    have b1 : ((L.texts.length : Int) != (L.want.length : Int)) = false := by rw [hlen]; simp
    have b2 : ((L.want.length : Int) != (L.want.length : Int)) = false := by simp
    go_upto_region 21 with (fail)
    replace HE := a0_ HE.out.drew
    replace HW := a0_ (below_drew1 HW.out)
    replace HS : Aside0 (b ≤ (World.drew wr).heap.size) := HS
    refine st_ 17 (S := fun w' => w'.cell? ⟨g, 17, none⟩ = some (.slice At L.texts.length ct) ∧ w'.cell? ⟨g, 14, none⟩ = some (.slice Aw L.want.length cw)) (ds := []) ⟨((HE.out.cell 17).trans rfl), ((HE.out.cell 14).trans rfl)⟩ (fun hHeld => ?_)
    generalize World.drew wr = V at HE HW HS hHeld ⊢
    refine pu_ 0 (some 104) rfl rfl ?_
    refine pu_ 1 (some 105) rfl rfl ?_
    refine pu_ 2 (some 106) rfl rfl ?_
    refine pu_ 3 (some 107) rfl rfl ?_
    refine pu_ 6 (some 110) rfl rfl ?_
    refine pu_ 7 (some 111) rfl rfl ?_
    refine pu_ 8 (some 112) rfl rfl ?_
    refine ta_ 4 (some 108) rfl rfl hHeld ?_
    refine pu_ 5 (some 109) rfl rfl ?_
    refine ta_ 9 (some 113) rfl rfl hHeld ?_
    refine pu_ 10 (some 114) rfl rfl ?_
    refine pu_ 11 (some 115) rfl rfl ?_
    refine pu_ 12 (some 116) rfl rfl ?_
    refine pu_ 13 (some 117) rfl rfl ?_
    refine on_ 14 (some 118) rfl rfl (fun K hK => ?_)
    refine goes_ Try.func8 z11_ rfl #[.pointer (some ⟨g, 0, none⟩)] (by rfl) rfl rfl z107_ ?_
    with_reducible refine (road_begins.calls b g L (.slice A0 l0.length c0) f _ (RV.roadF HE.out) (by rw [HT.out]; exact List.prefix_refl _)).mono ?_
    rintro e w6 ⟨rfl, he6, hb6⟩
    refine ⟨_, rfl, ?_⟩
    have HE6 := a0_ (HE.out.below hb6)
    have HW6 := a0_ (HW.out.trans (hb6.mono HS.out))
    have HS6 := a0_ (Nat.le_trans HS.out hb6.size)
    clear he6 hb6
    refine hK.out _ _ (by exact ⟨((HE6.out.cell 17).trans rfl), ((HE6.out.cell 14).trans rfl)⟩) (fun hHeld => ?_)
    clear hK K
    refine norm_ (a' := ?_) ?_ ?_
    rotate_left
    ·show Act.put _ (some 118) _ = _
     exact put_
    refine pu_ 15 (some 119) rfl rfl ?_
    refine pu_ 16 (some 120) rfl rfl ?_
    refine done_ z11_ ?_
    clear HE HW HS hHeld b1
    have x14 := HE6.out.cell 14
    simp only [cellsR] at x14
    go_wp2
    go_loopw [126] (fun i wr => ∃ j : Nat, j ≤ L.want.length ∧ i = .int .i64 j ∧ Aside0 (RV b wr g L f (.slice A0 l0.length c0) v0 v1 vn (.slice Aw L.want.length cw) vj (.slice At L.texts.length ct)) ∧ Aside0 (Below b w wr) ∧ Aside0 (b ≤ wr.heap.size)) (fun i _ => L.want.length - (intOf i).toNat)
    case atStart => exact ⟨0, Nat.zero_le _, rfl, HE6, HW6, HS6⟩
    case round =>
     clear HE6 HW6 HS6 x14
     obtain ⟨j, hj, rfl, HE, HW, HS⟩ := hrel
     by_cases hlt : j < L.want.length
     ·have d1 : decide ((j : Int) < (L.want.length : Int)) = true := decide_eq_true z2_
      have p0 : (0 : Int) ≤ (j : Int) := by omega
      have p1 : (j : Int) < (L.texts.length : Int) := by omega
      have p2 : (j : Int) < (L.want.length : Int) := by omega
      have x17 := HE.out.cell 17
      simp only [cellsR] at x17
      obtain ⟨ad1, e1, z1⟩ := Kd.at_string (Kd.R_reads' HE.out.ht).2.2 (j : Int) p0 p1
      cases e1
      rw [Int.toNat_natCast, rd_str L.texts j z2_] at z1
      have hs1 : L.texts[j]'z2_ = L.want[j] := by simp only [HT.out]
      rw [hs1] at z1
      obtain ⟨mm, hP, hY⟩ := HBK.out _ (List.getElem_mem hlt)
      have hw2 := rd_str L.want j hlt
      generalize L.want[j] = s' at z1 hP hY hw2
      have HP := a0_ hP
      have HYB := a0_ hY
      have HW2 := a0_ hw2
      clear hP hY hs1 hw2
      go_wp2_with fail
      (with_reducible refine (msg_Parse.calls k s' mm _ HP.out).mono ?_)
      rintro e w6 ⟨cs, rfl, hk6, hb6⟩
      obtain ⟨A2m, c2m, A7, c7, A9, c9, A10, c10, A13, c13, rfl, q2, g2, q7, g7, q9, g9, q10, g10, q13, g13⟩ := k53_open hk6
      have HBM := a0_ (below_alloc hb6 (.cells #[.int .i64 mm.f0, .int .i64 mm.f1, .slice A2m mm.f2.length c2m, .int .i64 mm.f3, .int .i64 mm.f4, .int .i64 mm.f5, .bool mm.f6, .slice A7 mm.f7.f0.length c7, .int .i64 mm.f7.f1, .slice A9 mm.f8.length c9, .slice A10 mm.f9.length c10, .int .i64 mm.f10.f0, .int .i64 mm.f10.f1, .slice A13 mm.f10.f2.length c13] 53 (0, 0)))
      have BM := a0_ (blk_new w6 (.cells #[.int .i64 mm.f0, .int .i64 mm.f1, .slice A2m mm.f2.length c2m, .int .i64 mm.f3, .int .i64 mm.f4, .int .i64 mm.f5, .bool mm.f6, .slice A7 mm.f7.f0.length c7, .int .i64 mm.f7.f1, .slice A9 mm.f8.length c9, .slice A10 mm.f9.length c10, .int .i64 mm.f10.f0, .int .i64 mm.f10.f1, .slice A13 mm.f10.f2.length c13] 53 (0, 0)))
      have hal := below_alloc (Below.refl w6.heap.size w6) (.cells #[.int .i64 mm.f0, .int .i64 mm.f1, .slice A2m mm.f2.length c2m, .int .i64 mm.f3, .int .i64 mm.f4, .int .i64 mm.f5, .bool mm.f6, .slice A7 mm.f7.f0.length c7, .int .i64 mm.f7.f1, .slice A9 mm.f8.length c9, .slice A10 mm.f9.length c10, .int .i64 mm.f10.f0, .int .i64 mm.f10.f1, .slice A13 mm.f10.f2.length c13] 53 (0, 0))
      have HG := a0_ (And.intro (Kd.C_below g2 hal) (And.intro (Kd.C_below g7 hal) (And.intro (Kd.C_below g9 hal) (And.intro (Kd.C_below g10 hal) (Kd.C_below g13 hal)))))
      have HQ := a0_ (And.intro q2 (And.intro q7 (And.intro q9 (And.intro q10 q13))))
      clear hk6 hb6 hal g2 g7 g9 g10 g13 q2 q7 q9 q10 q13 x17 z1
      go_upto_region 27 with (fail)
      generalize w6.alloc (.cells #[.int .i64 mm.f0, .int .i64 mm.f1, .slice A2m mm.f2.length c2m, .int .i64 mm.f3, .int .i64 mm.f4, .int .i64 mm.f5, .bool mm.f6, .slice A7 mm.f7.f0.length c7, .int .i64 mm.f7.f1, .slice A9 mm.f8.length c9, .slice A10 mm.f9.length c10, .int .i64 mm.f10.f0, .int .i64 mm.f10.f1, .slice A13 mm.f10.f2.length c13] 53 (0, 0)) = w7 at HBM BM HG ⊢
      generalize w6.heap.size = gm at BM ⊢
      have y0 : w7.cell? ⟨gm, 0, none⟩ = some (.int .i64 mm.f0) := (blk_cell BM.out 0).trans rfl
      have y1 : w7.cell? ⟨gm, 1, none⟩ = some (.int .i64 mm.f1) := (blk_cell BM.out 1).trans rfl
      have y2 : w7.cell? ⟨gm, 2, none⟩ = some (.slice A2m mm.f2.length c2m) := (blk_cell BM.out 2).trans rfl
      have y3 : w7.cell? ⟨gm, 3, none⟩ = some (.int .i64 mm.f3) := (blk_cell BM.out 3).trans rfl
      have y4 : w7.cell? ⟨gm, 4, none⟩ = some (.int .i64 mm.f4) := (blk_cell BM.out 4).trans rfl
      have y5 : w7.cell? ⟨gm, 5, none⟩ = some (.int .i64 mm.f5) := (blk_cell BM.out 5).trans rfl
      have y6 : w7.cell? ⟨gm, 6, none⟩ = some (.bool mm.f6) := (blk_cell BM.out 6).trans rfl
      have y7 : w7.cell? ⟨gm, 7, none⟩ = some (.slice A7 mm.f7.f0.length c7) := (blk_cell BM.out 7).trans rfl
      have y8 : w7.cell? ⟨gm, 8, none⟩ = some (.int .i64 mm.f7.f1) := (blk_cell BM.out 8).trans rfl
      have y9 : w7.cell? ⟨gm, 9, none⟩ = some (.slice A9 mm.f8.length c9) := (blk_cell BM.out 9).trans rfl
      have y10 : w7.cell? ⟨gm, 10, none⟩ = some (.slice A10 mm.f9.length c10) := (blk_cell BM.out 10).trans rfl
      have y11 : w7.cell? ⟨gm, 11, none⟩ = some (.int .i64 mm.f10.f0) := (blk_cell BM.out 11).trans rfl
      have y12 : w7.cell? ⟨gm, 12, none⟩ = some (.int .i64 mm.f10.f1) := (blk_cell BM.out 12).trans rfl
      have y13 : w7.cell? ⟨gm, 13, none⟩ = some (.slice A13 mm.f10.f2.length c13) := (blk_cell BM.out 13).trans rfl
      have HE7 := a0_ (HE.out.below HBM.out)
      have HW7 := a0_ (HW.out.trans (HBM.out.mono HS.out))
      have HS7 := a0_ (Nat.le_trans HS.out HBM.out.size)
      clear HE HW HS HBM BM
      go_wp2_with fail
      (with_reducible refine (msg_Bytes.calls k mm.f0 mm.f1 A2m c2m mm.f2 mm.f3 mm.f4 mm.f5 mm.f6 A7 c7 mm.f7.f0 mm.f7.f1 A9 c9 mm.f8 A10 c10 mm.f9 mm.f10.f0 mm.f10.f1 A13 c13 mm.f10.f2 s' 0 _ HG.out.1 HQ.out.1 HG.out.2.1 HQ.out.2.1 HG.out.2.2.1 HQ.out.2.2.1 HG.out.2.2.2.1 HQ.out.2.2.2.1 HG.out.2.2.2.2 HQ.out.2.2.2.2 HYB.out).mono ?_)
      rintro e w8 ⟨rfl, hb8⟩
      have HE8 := a0_ (HE7.out.below hb8)
      have HW8 := a0_ (HW7.out.trans (hb8.mono HS7.out))
      have HS8 := a0_ (Nat.le_trans HS7.out hb8.size)
      clear hb8 HE7 HW7 HS7 y0 y1 y2 y3 y4 y5 y6 y7 y8 y9 y10 y11 y12 y13 HG HQ HP HYB
      have x14 := HE8.out.cell 14
      simp only [cellsR] at x14
      obtain ⟨ad2, e2, z2⟩ := Kd.at_string (Kd.R_reads' HE8.out.hw).2.2 (j : Int) p0 p2
      cases e2
      rw [HW2.out, Int.toNat_natCast] at z2
      have c9 : (s'.toList == s'.toList) = true := beq_self_eq_true _
      have c9' : (s'.toList != s'.toList) = false := by simp
      go_wp2
      go_roundw
      case rel => exact ⟨j + 1, z2_, z30_, HE8, HW8, HS8⟩
      case measure => simp [intOf]; omega
     ·have d1 : decide ((j : Int) < (L.want.length : Int)) = false := decide_eq_false z2_
      clear HE
      go_wp2_with fail
      (with_reducible refine (counterfoiltop_speaks.calls k s q p m _ HSP.out).mono ?_)
      rintro e w6 ⟨rfl, hb6⟩
      have HW6 : Aside0 (Below w.heap.size w w6) := ⟨by rw [← HBS.out]; exact HW.out.trans (hb6.mono HS.out)⟩
      clear hb6
      go_wp2
      go_ret
      exact ⟨rfl, HW6.out⟩
end Go.Proofs.Ytecfndblgefhdaa.P
