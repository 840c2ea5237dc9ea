import Derived.Test.YtecfndblgefhdaaKcPx9
import Derived.Test.YtecfndblgefhdaaKcRoad
set_option linter.unusedVariables false
set_option linter.unusedSimpArgs false
namespace Go.Proofs.Ytecfndblgefhdaa.P
open Go.RowKit Go.Proofs.YtecfndblgefhdaaW.PrintWords Go.Proofs.YtecfndblgefhdaaW.PrintLast Go.Proofs.YtecfndblgefhdaaW.PrintMore
attribute [local go_sem] max2_int min2_int max_two min_two max_three min_three max_four min_four
theorem infoWay : (Try.prog.info? 93).map (fun i => (i.zero, i.size, i.bytes)) = some (some (.agg #[.int .i64 0, .string ⟨#[]⟩]), 2, 24) := by kernel_rfl
def RS.out (L : RS) (p : ByteArray) : RS := if p = (⟨#[]⟩ : ByteArray) then L else { L with net := L.net ++ [⟨1, p⟩] }
def RS.put (k : Nat) (L : RS) (p : ByteArray) : Option RS := (link_Put.f k L.x0.f0 L.x0.f1 L.x0.f2 L.x0.f3 L.x0.f4 p).bind fun r => if L.net.length ≤ 100000 then some ((if r.2.2.2.2.2.2 = 0 then { L with x0 := ⟨r.1, r.2.1, r.2.2.1, r.2.2.2.1, r.2.2.2.2.1⟩ } else L).out r.2.2.2.2.2.1) else none
def RS.puts (k : Nat) : List ByteArray → RS → Option RS
 | [], L => some L
 | p :: r, L => (L.put k p).bind (RS.puts k r)
def RS.send (k : Nat) (l : List S53) (L : RS) : Option RS :=
 if (l.length : Int) ≤ L.sent ∨ 20 ≤ L.sent ∨ 0 < L.x0.f3.length then some L else
 (msg_Bytes.f k (rd_T53 l L.sent).f0 (rd_T53 l L.sent).f1 (rd_T53 l L.sent).f2 (rd_T53 l L.sent).f3 (rd_T53 l L.sent).f4 (rd_T53 l L.sent).f5 (rd_T53 l L.sent).f6 (rd_T53 l L.sent).f7.f0 (rd_T53 l L.sent).f7.f1 (rd_T53 l L.sent).f8 (rd_T53 l L.sent).f9 (rd_T53 l L.sent).f10.f0 (rd_T53 l L.sent).f10.f1 (rd_T53 l L.sent).f10.f2).bind fun b => (seg_Cut.f k b.1 L.cut).bind fun c =>
  if b.2 ≠ 0 ∨ c.2 ≠ 0 ∨ 64 < c.1.length then some { L with sent := L.sent + 1 } else if L.want.length ≤ 100000 then RS.puts k c.1 { L with sent := L.sent + 1, want := L.want ++ [b.1] } else none
set_option maxHeartbeats 8000000 in
set_option maxRecDepth 100000 in
theorem road_send.calls (k b g : Nat) (l : List S53) (Al : Option Addr) (cl : Nat) (L L' : RS) (f : Nat → Nat) (w0 w : World) (hw0 : b = w0.heap.size) (h : RoadF b w g L (.slice Al l.length cl) f) (hb : b ≤ w.heap.size) (hB0 : Below b w0 w) (hl : Kd.C k53 w0 Al l.length l) (hcl : l.length ≤ cl) (hs : 0 ≤ L.sent ∧ L.sent ≤ 100)
  (hS : L.send k l = some L') :
  Calls Try.prog 29 #[.pointer (some ⟨g, 0, none⟩)] w fun e w' => e = .returned (.tuple #[]) ∧ (∃ f', RoadF b w' g L' (.slice Al l.length cl) f' ∧ Kept9 w w' f f') ∧ Below b w w' := by
 subst hw0
 obtain ⟨v0, v1, vn, vw, vj, vt, h⟩ := h
 have HE := a0_ h
 have HB := a0_ hb
 have HB0 := a0_ hB0
 have HLC := a0_ hl
 have HCL := a0_ hcl
 have HB1 := a0_ (Below.refl w.heap.size w)
 have HS := a0_ hS
 have hlen : l.length ≤ 9223372036854775807 := hl.2.1
 clear h hb hB0 hl hcl hS
 have hq := Kd.Q_reads HE.out.h0
 obtain ⟨A0, c0, hv0, hn0, hC0⟩ := hq
 subst hv0
 have hlen0 : L.x0.f3.length ≤ 9223372036854775807 := hC0.2.1
 have HN0 := a0_ hn0
 clear hn0 hC0
 have h := HS.out
 unfold RS.send at h
 clear HS
 by_cases c1 : (l.length : Int) ≤ L.sent
 ·rw [if_pos (.inl c1)] at h
  obtain rfl := Option.some.inj h
  have b1 : decide ((l.length : Int) ≤ L.sent) = true := decide_eq_true c1
  go_enter Try.func29, Try.ntmps29
  go_upto_region 0 with (fail)
  refine st_ 27 (S := fun w' => w'.cell? ⟨g, 13, none⟩ = some (.int .i64 L.sent) ∧ w'.cell? ⟨g, 0, none⟩ = some (.slice Al l.length cl) ∧ w'.cell? ⟨g, 5, none⟩ = some (.slice A0 L.x0.f3.length c0)) (ds := []) ⟨(HE.out.cell 13).trans rfl, (HE.out.cell 0).trans rfl, (HE.out.cell 5).trans rfl⟩ (fun hHeld => ?_)
  replace HE := a0_ HE.out.drew
  replace HB1 := a0_ (below_drew1 HB1.out)
  replace HB0 := a0_ (below_drew1 HB0.out)
  generalize w.drew = V at HE HB1 HB0 hHeld ⊢
  refine pu_ 0 (some 11) rfl rfl ?_
  refine pu_ 1 (some 12) rfl rfl ?_
  refine pu_ 2 (some 13) rfl rfl ?_
  refine pu_ 4 (some 15) rfl rfl ?_
  refine pu_ 5 (some 16) rfl rfl ?_
  refine pu_ 6 (some 17) rfl rfl ?_
  refine ta_ 3 (some 14) rfl rfl hHeld ?_
  refine ta_ 7 (some 18) rfl rfl hHeld ?_
  refine pu_ 8 (some 19) rfl rfl ?_
  refine pu_ 9 (some 20) rfl rfl ?_
  refine pu_ 10 (some 21) rfl rfl ?_
  refine pv_ 11 (some 22) rfl rfl ?_
  refine pv_ 12 (some 23) rfl rfl ?_
  refine pv_ 13 (some 24) rfl rfl ?_
  refine pv_ 14 (some 25) rfl rfl ?_
  refine pv_ 15 (some 26) rfl rfl ?_
  refine pu_ 16 (some 27) rfl rfl ?_
  refine pu_ 17 (some 28) rfl rfl ?_
  refine pv_ 18 (some 29) rfl rfl ?_
  refine pv_ 19 (some 30) rfl rfl ?_
  refine pv_ 20 (some 31) rfl rfl ?_
  refine pv_ 21 (some 32) rfl rfl ?_
  refine pv_ 22 (some 33) rfl rfl ?_
  refine pv_ 23 (some 34) rfl rfl ?_
  refine pv_ 24 (some 35) rfl rfl ?_
  refine pv_ 25 (some 36) rfl rfl ?_
  refine pu_ 26 (some 37) rfl rfl ?_
  refine done_ z11_ ?_
  go_wp2
  refine bodyPost_ret (results_none rfl _ _ _) rfl ?_
  exact ⟨rfl, ⟨f, ⟨_, _, _, _, _, _, HE.out⟩, fun k hk h9 => ⟨h9, HB1.out.block k hk⟩⟩, HB1.out.mono HB.out⟩
 have b1 : decide ((l.length : Int) ≤ L.sent) = false := decide_eq_false c1
 by_cases c2 : 20 ≤ L.sent
 ·rw [if_pos (.inr (.inl c2))] at h
  obtain rfl := Option.some.inj h
  have b2 : decide (20 ≤ L.sent) = true := decide_eq_true c2
  go_enter Try.func29, Try.ntmps29
  go_upto_region 0 with (fail)
  refine st_ 27 (S := fun w' => w'.cell? ⟨g, 13, none⟩ = some (.int .i64 L.sent) ∧ w'.cell? ⟨g, 0, none⟩ = some (.slice Al l.length cl) ∧ w'.cell? ⟨g, 5, none⟩ = some (.slice A0 L.x0.f3.length c0)) (ds := []) ⟨(HE.out.cell 13).trans rfl, (HE.out.cell 0).trans rfl, (HE.out.cell 5).trans rfl⟩ (fun hHeld => ?_)
  replace HE := a0_ HE.out.drew
  replace HB1 := a0_ (below_drew1 HB1.out)
  replace HB0 := a0_ (below_drew1 HB0.out)
  generalize w.drew = V at HE HB1 HB0 hHeld ⊢
  refine pu_ 0 (some 11) rfl rfl ?_
  refine pu_ 1 (some 12) rfl rfl ?_
  refine pu_ 2 (some 13) rfl rfl ?_
  refine pu_ 4 (some 15) rfl rfl ?_
  refine pu_ 5 (some 16) rfl rfl ?_
  refine pu_ 6 (some 17) rfl rfl ?_
  refine ta_ 3 (some 14) rfl rfl hHeld ?_
  refine ta_ 7 (some 18) rfl rfl hHeld ?_
  refine pu_ 8 (some 19) rfl rfl ?_
  refine pu_ 9 (some 20) rfl rfl ?_
  refine pu_ 10 (some 21) rfl rfl ?_
  refine pu_ 11 (some 22) rfl rfl ?_
  refine pu_ 12 (some 23) rfl rfl ?_
  refine pu_ 13 (some 24) rfl rfl ?_
  refine ta_ 14 (some 25) rfl rfl hHeld ?_
  refine pu_ 15 (some 26) rfl rfl ?_
  refine pu_ 16 (some 27) rfl rfl ?_
  refine pu_ 17 (some 28) rfl rfl ?_
  refine pv_ 18 (some 29) rfl rfl ?_
  refine pv_ 19 (some 30) rfl rfl ?_
  refine pv_ 20 (some 31) rfl rfl ?_
  refine pv_ 21 (some 32) rfl rfl ?_
  refine pv_ 22 (some 33) rfl rfl ?_
  refine pv_ 23 (some 34) rfl rfl ?_
  refine pv_ 24 (some 35) rfl rfl ?_
  refine pv_ 25 (some 36) rfl rfl ?_
  refine pu_ 26 (some 37) rfl rfl ?_
  refine done_ z11_ ?_
  go_wp2
  refine bodyPost_ret (results_none rfl _ _ _) rfl ?_
  exact ⟨rfl, ⟨f, ⟨_, _, _, _, _, _, HE.out⟩, fun k hk h9 => ⟨h9, HB1.out.block k hk⟩⟩, HB1.out.mono HB.out⟩
 have b2 : decide (20 ≤ L.sent) = false := decide_eq_false c2
 by_cases c3 : 0 < L.x0.f3.length
 ·rw [if_pos (.inr (.inr c3))] at h
  obtain rfl := Option.some.inj h
  have b3 : decide (0 < (L.x0.f3.length : Int)) = true := decide_eq_true z2_
  have b3' : decide (0 < L.x0.f3.length) = true := decide_eq_true c3
  go_enter Try.func29, Try.ntmps29
  go_upto_region 0 with (fail)
  refine st_ 27 (S := fun w' => w'.cell? ⟨g, 13, none⟩ = some (.int .i64 L.sent) ∧ w'.cell? ⟨g, 0, none⟩ = some (.slice Al l.length cl) ∧ w'.cell? ⟨g, 5, none⟩ = some (.slice A0 L.x0.f3.length c0)) (ds := []) ⟨(HE.out.cell 13).trans rfl, (HE.out.cell 0).trans rfl, (HE.out.cell 5).trans rfl⟩ (fun hHeld => ?_)
  replace HE := a0_ HE.out.drew
  replace HB1 := a0_ (below_drew1 HB1.out)
  replace HB0 := a0_ (below_drew1 HB0.out)
  generalize w.drew = V at HE HB1 HB0 hHeld ⊢
  refine pu_ 0 (some 11) rfl rfl ?_
  refine pu_ 1 (some 12) rfl rfl ?_
  refine pu_ 2 (some 13) rfl rfl ?_
  refine pu_ 4 (some 15) rfl rfl ?_
  refine pu_ 5 (some 16) rfl rfl ?_
  refine pu_ 6 (some 17) rfl rfl ?_
  refine ta_ 3 (some 14) rfl rfl hHeld ?_
  refine ta_ 7 (some 18) rfl rfl hHeld ?_
  refine pu_ 8 (some 19) rfl rfl ?_
  refine pu_ 9 (some 20) rfl rfl ?_
  refine pu_ 10 (some 21) rfl rfl ?_
  refine pu_ 11 (some 22) rfl rfl ?_
  refine pu_ 12 (some 23) rfl rfl ?_
  refine pu_ 13 (some 24) rfl rfl ?_
  refine ta_ 14 (some 25) rfl rfl hHeld ?_
  refine pu_ 15 (some 26) rfl rfl ?_
  refine pu_ 16 (some 27) rfl rfl ?_
  refine pu_ 17 (some 28) rfl rfl ?_
  refine pu_ 18 (some 29) rfl rfl ?_
  refine pu_ 19 (some 30) rfl rfl ?_
  refine pu_ 20 (some 31) rfl rfl ?_
  refine pu_ 21 (some 32) rfl rfl ?_
  refine pu_ 22 (some 33) rfl rfl ?_
  refine ta_ 23 (some 34) rfl rfl hHeld ?_
  refine pu_ 24 (some 35) rfl rfl ?_
  refine pu_ 25 (some 36) rfl rfl ?_
  refine pu_ 26 (some 37) rfl rfl ?_
  refine done_ z11_ ?_
  go_wp2
  refine bodyPost_ret (results_none rfl _ _ _) rfl ?_
  exact ⟨rfl, ⟨f, ⟨_, _, _, _, _, _, HE.out⟩, fun k hk h9 => ⟨h9, HB1.out.block k hk⟩⟩, HB1.out.mono HB.out⟩
 have b3 : decide (0 < (L.x0.f3.length : Int)) = false := decide_eq_false z2_
 have b3' : decide (0 < L.x0.f3.length) = false := decide_eq_false c3
 rw [if_neg (fun hx => by rcases hx with hx | hx | hx; exact c1 hx; exact c2 hx; exact c3 hx)] at h
 obtain ⟨⟨s, e⟩, hby, h1⟩ := Option.bind_eq_some_iff.1 h
 clear h
 obtain ⟨⟨ps, e2⟩, hcu, h2⟩ := Option.bind_eq_some_iff.1 h1
 clear h1
 simp only at hby hcu h2
 have d1 : (0 : Int) ≤ L.sent := hs.1
 have d2 : L.sent < (l.length : Int) := by omega
 obtain ⟨ad, A2, c2_, A7, c7, A9, c9, A10, c10, A13, c13, hA, z0, z1, z2, z3, z4, z5, z6, z7, z8, z9, z10, z11, z12, z13, y2, C2, y7, C7, y9, C9, y10, C10, y13, C13⟩ := at_T53 HLC.out L.sent d1 d2
 subst hA
 generalize rd_T53 l L.sent = m at *
 have ZC := a0_ (⟨z0, z1, z2, z3, z4, z5, z6, z7, z8, z9, z10, z11, z12, z13⟩ : _ ∧ _ ∧ _ ∧ _ ∧ _ ∧ _ ∧ _ ∧ _ ∧ _ ∧ _ ∧ _ ∧ _ ∧ _ ∧ _)
 have CC := a0_ (⟨y2, C2, y7, C7, y9, C9, y10, C10, y13, C13⟩ : _ ∧ _ ∧ _ ∧ _ ∧ _ ∧ _ ∧ _ ∧ _ ∧ _ ∧ _)
 have HBY := a0_ hby
 have HCU := a0_ hcu
 have H2 := a0_ h2
 clear z0 z1 z2 z3 z4 z5 z6 z7 z8 z9 z10 z11 z12 z13 y2 C2 y7 C7 y9 C9 y10 C10 y13 C13 hby hcu h2
 have p1 : ((0 : Int) ≤ L.sent) = True := eq_true d1
 have p2 : (L.sent < (l.length : Int)) = True := eq_true d2
 go_enter Try.func29, Try.ntmps29
 go_upto_region 0 with (fail)
 refine st_ 27 (S := fun w' => w'.cell? ⟨g, 13, none⟩ = some (.int .i64 L.sent) ∧ w'.cell? ⟨g, 0, none⟩ = some (.slice (some ad) l.length cl) ∧ w'.cell? ⟨g, 5, none⟩ = some (.slice A0 L.x0.f3.length c0)) (ds := []) ⟨(HE.out.cell 13).trans rfl, (HE.out.cell 0).trans rfl, (HE.out.cell 5).trans rfl⟩ (fun hHeld => ?_)
 replace HE := a0_ HE.out.drew
 replace HB1 := a0_ (below_drew1 HB1.out)
 replace HB0 := a0_ (below_drew1 HB0.out)
 generalize w.drew = Vw at HE HB1 HB0 hHeld ⊢
 refine pu_ 0 (some 11) rfl rfl ?_
 refine pu_ 1 (some 12) rfl rfl ?_
 refine pu_ 2 (some 13) rfl rfl ?_
 refine pu_ 4 (some 15) rfl rfl ?_
 refine pu_ 5 (some 16) rfl rfl ?_
 refine pu_ 6 (some 17) rfl rfl ?_
 refine ta_ 3 (some 14) rfl rfl hHeld ?_
 refine ta_ 7 (some 18) rfl rfl hHeld ?_
 refine pu_ 8 (some 19) rfl rfl ?_
 refine pu_ 9 (some 20) rfl rfl ?_
 refine pu_ 10 (some 21) rfl rfl ?_
 refine pu_ 11 (some 22) rfl rfl ?_
 refine pu_ 12 (some 23) rfl rfl ?_
 refine pu_ 13 (some 24) rfl rfl ?_
 refine ta_ 14 (some 25) rfl rfl hHeld ?_
 refine pu_ 15 (some 26) rfl rfl ?_
 refine pu_ 16 (some 27) rfl rfl ?_
 refine pu_ 17 (some 28) rfl rfl ?_
 refine pu_ 18 (some 29) rfl rfl ?_
 refine pu_ 19 (some 30) rfl rfl ?_
 refine pu_ 20 (some 31) rfl rfl ?_
 refine pu_ 21 (some 32) rfl rfl ?_
 refine pu_ 22 (some 33) rfl rfl ?_
 refine ta_ 23 (some 34) rfl rfl hHeld ?_
 refine pu_ 24 (some 35) rfl rfl ?_
 refine pu_ 25 (some 36) rfl rfl ?_
 refine pu_ 26 (some 37) rfl rfl ?_
 refine done_ z11_ ?_
 go_upto_region 1 with (fail)
 refine st_ 16 (S := fun w' => w'.cell? ⟨g, 0, none⟩ = some (.slice (some ad) l.length cl) ∧ w'.cell? ⟨g, 13, none⟩ = some (.int .i64 L.sent) ∧ w'.cell? (ad.add (L.sent.toNat * 14)) = some (.int .i64 m.f0) ∧ w'.cell? ⟨(ad.add (L.sent.toNat * 14)).block, (ad.add (L.sent.toNat * 14)).off + 1, none⟩ = some (.int .i64 m.f1) ∧ w'.cell? ⟨(ad.add (L.sent.toNat * 14)).block, (ad.add (L.sent.toNat * 14)).off + 2, none⟩ = some (.slice A2 m.f2.length c2_) ∧ w'.cell? ⟨(ad.add (L.sent.toNat * 14)).block, (ad.add (L.sent.toNat * 14)).off + 3, none⟩ = some (.int .i64 m.f3) ∧ w'.cell? ⟨(ad.add (L.sent.toNat * 14)).block, (ad.add (L.sent.toNat * 14)).off + 4, none⟩ = some (.int .i64 m.f4) ∧ w'.cell? ⟨(ad.add (L.sent.toNat * 14)).block, (ad.add (L.sent.toNat * 14)).off + 5, none⟩ = some (.int .i64 m.f5) ∧ w'.cell? ⟨(ad.add (L.sent.toNat * 14)).block, (ad.add (L.sent.toNat * 14)).off + 6, none⟩ = some (.bool m.f6) ∧ w'.cell? ⟨(ad.add (L.sent.toNat * 14)).block, (ad.add (L.sent.toNat * 14)).off + 7, none⟩ = some (.slice A7 m.f7.f0.length c7) ∧ w'.cell? ⟨(ad.add (L.sent.toNat * 14)).block, (ad.add (L.sent.toNat * 14)).off + 8, none⟩ = some (.int .i64 m.f7.f1) ∧ w'.cell? ⟨(ad.add (L.sent.toNat * 14)).block, (ad.add (L.sent.toNat * 14)).off + 9, none⟩ = some (.slice A9 m.f8.length c9) ∧ w'.cell? ⟨(ad.add (L.sent.toNat * 14)).block, (ad.add (L.sent.toNat * 14)).off + 10, none⟩ = some (.slice A10 m.f9.length c10) ∧ w'.cell? ⟨(ad.add (L.sent.toNat * 14)).block, (ad.add (L.sent.toNat * 14)).off + 11, none⟩ = some (.int .i64 m.f10.f0) ∧ w'.cell? ⟨(ad.add (L.sent.toNat * 14)).block, (ad.add (L.sent.toNat * 14)).off + 12, none⟩ = some (.int .i64 m.f10.f1) ∧ w'.cell? ⟨(ad.add (L.sent.toNat * 14)).block, (ad.add (L.sent.toNat * 14)).off + 13, none⟩ = some (.slice A13 m.f10.f2.length c13)) (ds := []) ⟨(HE.out.cell 0).trans rfl, (HE.out.cell 13).trans rfl, (HB0.out.cell (World.block_lt_of_cell? w0 _ ZC.out.1)).trans ZC.out.1, (HB0.out.cell (World.block_lt_of_cell? w0 _ ZC.out.2.1)).trans ZC.out.2.1, (HB0.out.cell (World.block_lt_of_cell? w0 _ ZC.out.2.2.1)).trans ZC.out.2.2.1, (HB0.out.cell (World.block_lt_of_cell? w0 _ ZC.out.2.2.2.1)).trans ZC.out.2.2.2.1, (HB0.out.cell (World.block_lt_of_cell? w0 _ ZC.out.2.2.2.2.1)).trans ZC.out.2.2.2.2.1, (HB0.out.cell (World.block_lt_of_cell? w0 _ ZC.out.2.2.2.2.2.1)).trans ZC.out.2.2.2.2.2.1, (HB0.out.cell (World.block_lt_of_cell? w0 _ ZC.out.2.2.2.2.2.2.1)).trans ZC.out.2.2.2.2.2.2.1, (HB0.out.cell (World.block_lt_of_cell? w0 _ ZC.out.2.2.2.2.2.2.2.1)).trans ZC.out.2.2.2.2.2.2.2.1, (HB0.out.cell (World.block_lt_of_cell? w0 _ ZC.out.2.2.2.2.2.2.2.2.1)).trans ZC.out.2.2.2.2.2.2.2.2.1, (HB0.out.cell (World.block_lt_of_cell? w0 _ ZC.out.2.2.2.2.2.2.2.2.2.1)).trans ZC.out.2.2.2.2.2.2.2.2.2.1, (HB0.out.cell (World.block_lt_of_cell? w0 _ ZC.out.2.2.2.2.2.2.2.2.2.2.1)).trans ZC.out.2.2.2.2.2.2.2.2.2.2.1, (HB0.out.cell (World.block_lt_of_cell? w0 _ ZC.out.2.2.2.2.2.2.2.2.2.2.2.1)).trans ZC.out.2.2.2.2.2.2.2.2.2.2.2.1, (HB0.out.cell (World.block_lt_of_cell? w0 _ ZC.out.2.2.2.2.2.2.2.2.2.2.2.2.1)).trans ZC.out.2.2.2.2.2.2.2.2.2.2.2.2.1, (HB0.out.cell (World.block_lt_of_cell? w0 _ ZC.out.2.2.2.2.2.2.2.2.2.2.2.2.2)).trans ZC.out.2.2.2.2.2.2.2.2.2.2.2.2.2⟩ (fun hHeld => ?_)
 replace HE := a0_ HE.out.drew
 replace HB1 := a0_ (below_drew1 HB1.out)
 replace HB0 := a0_ (below_drew1 HB0.out)
 generalize Vw.drew = V at HE HB1 HB0 hHeld ⊢
 refine pu_ 0 (some 39) rfl rfl ?_
 refine pu_ 1 (some 40) rfl rfl ?_
 refine pu_ 2 (some 41) rfl rfl ?_
 refine pu_ 4 (some 43) rfl rfl ?_
 refine pu_ 5 (some 44) rfl rfl ?_
 refine pu_ 6 (some 45) rfl rfl ?_
 refine ta_ 3 (some 42) rfl rfl hHeld ?_
 refine ta_ 7 (some 46) rfl rfl hHeld ?_
 refine pu_ 8 (some 47) rfl rfl ?_
 refine ta_ 9 (some 48) rfl rfl hHeld ?_
 refine on_ 10 (some 49) rfl rfl (fun K hK => ?_)
 refine goes_ Try.func10 z11_ rfl #[.agg #[.int .i64 m.f0, .int .i64 m.f1, .slice A2 m.f2.length c2_, .int .i64 m.f3, .int .i64 m.f4, .int .i64 m.f5, .bool m.f6, .slice A7 m.f7.f0.length c7, .int .i64 m.f7.f1, .slice A9 m.f8.length c9, .slice A10 m.f9.length c10, .int .i64 m.f10.f0, .int .i64 m.f10.f1, .slice A13 m.f10.f2.length c13]] (by rfl) rfl rfl z107_ ?_
 with_reducible refine (msg_Bytes.calls k _ _ A2 c2_ _ _ _ _ _ A7 c7 _ _ A9 c9 _ A10 c10 _ _ _ A13 c13 _ s e V (Kd.C_below CC.out.2.1 HB0.out) CC.out.1 (Kd.C_below CC.out.2.2.2.1 HB0.out) CC.out.2.2.1 (Kd.C_below CC.out.2.2.2.2.2.1 HB0.out) CC.out.2.2.2.2.1 (Kd.C_below CC.out.2.2.2.2.2.2.2.1 HB0.out) CC.out.2.2.2.2.2.2.1 (Kd.C_below CC.out.2.2.2.2.2.2.2.2.2 HB0.out) CC.out.2.2.2.2.2.2.2.2.1 HBY.out).mono ?_
 rintro e W1 ⟨rfl, hb⟩
 have HEn := a0_ (HE.out.below hb)
 have HB1n := a0_ (below_step HB1.out hb)
 have HB0n := a0_ (below_step HB0.out hb)
 clear hb HE HB1 HB0
 have HE := HEn
 have HB1 := HB1n
 have HB0 := HB0n
 clear HEn HB1n HB0n
 refine ⟨_, rfl, ?_⟩
 refine hK.out _ _ ⟨(HE.out.cell 0).trans rfl, (HE.out.cell 13).trans rfl, (HB0.out.cell (World.block_lt_of_cell? w0 _ ZC.out.1)).trans ZC.out.1, (HB0.out.cell (World.block_lt_of_cell? w0 _ ZC.out.2.1)).trans ZC.out.2.1, (HB0.out.cell (World.block_lt_of_cell? w0 _ ZC.out.2.2.1)).trans ZC.out.2.2.1, (HB0.out.cell (World.block_lt_of_cell? w0 _ ZC.out.2.2.2.1)).trans ZC.out.2.2.2.1, (HB0.out.cell (World.block_lt_of_cell? w0 _ ZC.out.2.2.2.2.1)).trans ZC.out.2.2.2.2.1, (HB0.out.cell (World.block_lt_of_cell? w0 _ ZC.out.2.2.2.2.2.1)).trans ZC.out.2.2.2.2.2.1, (HB0.out.cell (World.block_lt_of_cell? w0 _ ZC.out.2.2.2.2.2.2.1)).trans ZC.out.2.2.2.2.2.2.1, (HB0.out.cell (World.block_lt_of_cell? w0 _ ZC.out.2.2.2.2.2.2.2.1)).trans ZC.out.2.2.2.2.2.2.2.1, (HB0.out.cell (World.block_lt_of_cell? w0 _ ZC.out.2.2.2.2.2.2.2.2.1)).trans ZC.out.2.2.2.2.2.2.2.2.1, (HB0.out.cell (World.block_lt_of_cell? w0 _ ZC.out.2.2.2.2.2.2.2.2.2.1)).trans ZC.out.2.2.2.2.2.2.2.2.2.1, (HB0.out.cell (World.block_lt_of_cell? w0 _ ZC.out.2.2.2.2.2.2.2.2.2.2.1)).trans ZC.out.2.2.2.2.2.2.2.2.2.2.1, (HB0.out.cell (World.block_lt_of_cell? w0 _ ZC.out.2.2.2.2.2.2.2.2.2.2.2.1)).trans ZC.out.2.2.2.2.2.2.2.2.2.2.2.1, (HB0.out.cell (World.block_lt_of_cell? w0 _ ZC.out.2.2.2.2.2.2.2.2.2.2.2.2.1)).trans ZC.out.2.2.2.2.2.2.2.2.2.2.2.2.1, (HB0.out.cell (World.block_lt_of_cell? w0 _ ZC.out.2.2.2.2.2.2.2.2.2.2.2.2.2)).trans ZC.out.2.2.2.2.2.2.2.2.2.2.2.2.2⟩ (fun hHeld => ?_)
 clear hK K
 refine norm_ (a' := ?_) ?_ ?_
 rotate_left
 ·show Act.put _ (some 49) _ = _
  exact put_
 refine pu_ 11 (some 38) rfl rfl ?_
 refine pu_ 12 (some 50) rfl rfl ?_
 refine pu_ 13 (some 51) rfl rfl ?_
 refine pu_ 14 (some 2) rfl rfl ?_
 refine pu_ 15 (some 3) rfl rfl ?_
 refine done_ z11_ ?_
 have hk1 : Kept9 w W1 f f := fun k hk h9 => ⟨h9, HB1.out.block k hk⟩
 have HK := a0_ hk1
 have HBb := a0_ (HB1.out.mono HB.out)
 have HSZ := a0_ HB1.out.size
 clear hk1 HB1 HBY ZC CC p1 p2
 have x13 := HE.out.cell 13
 simp only [cellsR] at x13
 have u13 := HE.out.frozen 13
 have hw1 : wrap64 (L.sent + 1) = L.sent + 1 := by unfold wrap64; omega
 have hw2 : IntKind.i64.wrap (L.sent + 1) = L.sent + 1 := (i64_w _).trans hw1
 go_upto_region 3 with (fail)
 have HE2 := a0_ (HE.out.set_sent (L.sent + 1))
 have HB02 := a0_ (HB0.out.setCell (p := ⟨g, 13, none⟩) HE.out.low (.int .i64 (L.sent + 1)))
 have HBb2 := a0_ (HBb.out.setCell (p := ⟨g, 13, none⟩) HE.out.low (.int .i64 (L.sent + 1)))
 have HK2 : Aside0 (Kept9 w (W1.setCell ⟨g, 13, none⟩ (.int .i64 (L.sent + 1))) f f) := ⟨fun k hk h9 => by
  have hne : k ≠ g := fun e => by have h7 := HE.out.own; rw [← e, h9] at h7; cases h7
  exact ⟨h9, (Below.heap_setCell _ _ _ k hne).trans (HK.out k hk h9).2⟩⟩
 have HSZ2 : Aside0 (w.heap.size ≤ (W1.setCell ⟨g, 13, none⟩ (.int .i64 (L.sent + 1))).heap.size) := ⟨z143_⟩
 clear x13 u13 hw1 hw2 HE HB0 HBb HK HSZ
 generalize W1.setCell ⟨g, 13, none⟩ (.int .i64 (L.sent + 1)) = W2 at HE2 HB02 HBb2 HK2 HSZ2 ⊢
 have x1 := HE2.out.cell 1
 simp only [cellsR] at x1
 go_upto_region 4 with (go_at_call 42; (with_reducible refine (seg_Cut.calls k s L.cut ps e2 _ HCU.out).mono ?_); rintro e' W3 ⟨vp, rfl, hr, hb⟩; obtain ⟨Ap, cp, rfl, hpc, hpC⟩ := Kd.R_reads hr; have HP : Aside0 (Kd.string.R 9 W3 w0.heap.size (fun k => tagf f W2.heap.size 9 k = 9) (.slice Ap ps.length cp) ps) := ⟨Kd.R_mono (Kd.R_lower (Kd.R_bound hr) (Nat.le_trans HB.out HSZ2.out)) (fun k hk => z140_)⟩; have HE3 := a0_ (HE2.out.fresh hb 9); have HB03 := a0_ (HB02.out.trans (hb.mono (Nat.le_trans HB.out HSZ2.out))); have HBb3 := a0_ (HBb2.out.trans (hb.mono (Nat.le_trans HB.out HSZ2.out))); have HK3 : Aside0 (Kept9 w W3 f (tagf f W2.heap.size 9)) := ⟨fun k hk h9 => ⟨(tag_old (Nat.lt_of_lt_of_le hk HSZ2.out)).trans h9, (hb.block k (Nat.lt_of_lt_of_le hk HSZ2.out)).trans (HK2.out k hk h9).2⟩⟩; have HSZ3 := a0_ (Nat.le_trans HSZ2.out hb.size); clear hr hb hpC x1 HE2 HB02 HBb2 HK2)
 generalize tagf f W2.heap.size 9 = f3 at HP HE3 HK3
 replace H2 := H2.out
 by_cases q1 : e = 0
 ·subst q1
  have n1 : ((0 : Int) != 0) = false := rfl
  by_cases q2 : e2 = 0
  ·subst q2
   by_cases q3 : ps.length ≤ 64
   ·rw [if_neg (fun hx => by rcases hx with hx | hx | hx; exact hx rfl; exact hx rfl; omega)] at H2
    have n3 : decide (64 < (ps.length : Int)) = false := decide_eq_false z2_
    have n3' : decide (64 < ps.length) = false := decide_eq_false z2_
    by_cases q4 : L.want.length ≤ 100000
    ·rw [if_pos q4] at H2
     have HQ4 := a0_ q4
     have H := a0_ H2
     clear H2 q4
     obtain ⟨Aw, cw, hvw, hwc, hwC⟩ := Kd.R_reads HE3.out.hw
     subst hvw
     clear hwc hwC
     have x14 := HE3.out.cell 14
     simp only [cellsR] at x14
     go_upto_region 6 with (at_builtin; refine Kd.R_append Kd.string w0.heap.size rfl (.tmp 83) (.tmp 85) 24 9 (.string ⟨#[]⟩) 16 rfl Try.underlying24 infoT rfl z17_ z2_ (.slice Aw L.want.length cw) L.want s [.string s] (fun k => f3 k = 3 ∨ W3.heap.size ≤ k) (fun _ => False) rfl ?hx ?aP (fun _ hk => hk.elim) ?aF ?aO (Below.refl _ _) ?aS ?aL ?_; (case hx => exact z141_); (case aP => exact z72_); (case aF => exact z142_); (case aO => exact Kd.R_mono HE3.out.hw (fun k hk => .inl hk)); (case aS => exact Nat.le_trans HB.out HSZ3.out); (case aL => have := HQ4.out; omega); intro v5 w5 ho hb5 hg _; obtain ⟨A5, c5, rfl⟩ := Kd.R_slice ho; have HO := a0_ ho; have HG := a0_ hg; clear ho hb5 hg x14; have hne : f3 g ≠ 3 := (by rw [HE3.out.own]; decide); have hbk := blk_grown HE3.out.blk HG.out (fun e => hne (HE3.out.hw.1 g e.symm)); have x14 : w5.cell? ⟨g, 14, none⟩ = some (.slice Aw L.want.length cw) := (blk_cell hbk 14).trans rfl; have u14 : w5.frozen? ⟨g, 14, none⟩ = false := blk_frozen hbk 14; clear hbk hne)
     have hbs : w0.heap.size ≤ W3.heap.size := Nat.le_trans HB.out HSZ3.out
     obtain ⟨f5, hf5, he5⟩ := HE3.out.set_want (l := L.want ++ [s]) (v := .slice A5 (L.want ++ [s]).length c5) HG.out HO.out
     rw [show (L.want ++ [s]).length = L.want.length + 1 from by simp] at he5
     have hk5 : Kept9 W3 (w5.setCell ⟨g, 14, none⟩ (.slice A5 (L.want.length + 1) c5)) f3 f5 := Kept9.row HG.out (fun k hk e => by have h5 : f3 k = 3 := HE3.out.hw.1 k hk; rw [e] at h5; cases h5) hf5 (by rw [HE3.out.own]; decide)
     have HE5 := a0_ he5
     have HP5 := a0_ (R9_kept HP.out hk5)
     have HK5 := a0_ (HK3.out.trans hk5 HSZ3.out)
     have HB05 := a0_ ((pw_below_grown HB03.out _ hbs HG.out (fun k hk => Kd.R_base HE3.out.hw k hk)).setCell (p := ⟨g, 14, none⟩) HE3.out.low (.slice A5 (L.want.length + 1) c5))
     have HBb5 := a0_ ((pw_below_grown HBb3.out _ hbs HG.out (fun k hk => Kd.R_base HE3.out.hw k hk)).setCell (p := ⟨g, 14, none⟩) HE3.out.low (.slice A5 (L.want.length + 1) c5))
     have HSZ5 : Aside0 (w.heap.size ≤ (w5.setCell ⟨g, 14, none⟩ (.slice A5 (L.want.length + 1) c5)).heap.size) := ⟨by have h1 := HSZ3.out; have h2 := HG.out.size; have h3 := Nat.le_trans h1 h2; simpa [World.setCell] using h3⟩
     clear hf5 he5 hk5 hbs x14 u14 HG HO HE3 HP HK3 HB03 HBb3 HSZ3
     generalize w5.setCell ⟨g, 14, none⟩ (.slice A5 (L.want.length + 1) c5) = W5 at HE5 HP5 HK5 HB05 HBb5 HSZ5 ⊢
     go_wp2
     have HS0 : Aside0 (RS.puts k (ps.drop 0) { L with sent := L.sent + 1, want := L.want ++ [s] } = some L') := H
     clear H
     go_loopw [91] (fun v91 w' => ∃ (i : Nat) (M : RS) (fi : Nat → Nat), i ≤ ps.length ∧ v91 = .int .i64 i ∧ Aside0 (RS.puts k (ps.drop i) M = some L') ∧ Aside0 (RoadF w0.heap.size w' g M (.slice (some ad) l.length cl) fi) ∧ Aside0 (Kd.string.R 9 w' w0.heap.size (fun k => fi k = 9) (.slice Ap ps.length cp) ps) ∧ Aside0 (Kept9 w w' f fi) ∧ Aside0 (Below w0.heap.size w0 w') ∧ Aside0 (Below w0.heap.size w w') ∧ Aside0 (w.heap.size ≤ w'.heap.size)) (fun v91 _ => ps.length - (intOf v91).toNat)
     case atStart => exact ⟨0, _, f5, Nat.zero_le _, rfl, HS0, ⟨⟨_, _, _, _, _, _, HE5.out⟩⟩, HP5, HK5, HB05, HBb5, HSZ5⟩
     case round =>
      clear HS0 HE5 HP5 HK5 HB05 HBb5 HSZ5 hs d1 d2 c1 c2 c3 b1 b2 b3 b3'
      obtain ⟨i, M, fi, hi, rfl, H, HM, HP, HK, HB0, HBb, HSZ⟩ := hrel
      by_cases hlt : i < ps.length
      ·have h := H.out
       rw [List.drop_eq_getElem_cons hlt, RS.puts] at h
       replace h := Option.bind_eq_some_iff.1 h
       obtain ⟨M2, hput, h⟩ := h
       have H' := a0_ h
       clear h H
       obtain ⟨v0, v1, vn, vw, vj, vt, hM⟩ := HM.out
       have HE := a0_ hM
       clear hM HM
       have hat := Kd.at_string (Kd.R_reads' HP.out).2.2 (i : Int) z2_ z2_
       obtain ⟨ad2, ead, hcell⟩ := hat
       cases ead
       have hsp : rdOf ByteArray.empty ps (i : Int) = ps[i] := by
        unfold rdOf
        rw [Int.toNat_natCast, List.getD_eq_getElem?_getD, List.getElem?_eq_getElem hlt]
        rfl
       rw [hsp] at hcell
       rw [Int.toNat_natCast] at hcell
       have hi0 : 0 ≤ (i : Int) := by omega
       have hi1 : (i : Int) < (ps.length : Int) := by omega
       clear hsp
       generalize ps[i] = p at *
       go_upto_region 9 with (fail)
       have hq := Kd.Q_reads HE.out.h0
       obtain ⟨Ao, co, hvo, hno, hCo⟩ := hq
       subst hvo
       have HNO := a0_ hno
       clear hno hCo
       unfold RS.put at hput
       obtain ⟨⟨r1, r2, r3, r4, r5, r6, r7⟩, hpt, h3⟩ := Option.bind_eq_some_iff.1 hput
       clear hput
       simp only at hpt h3
       by_cases q5 : M.net.length ≤ 100000
       ·rw [if_pos q5] at h3
        have h3 := Option.some.inj h3
        have HPT := a0_ hpt
        have HQ5 := a0_ q5
        have HM2 := a0_ h3
        clear hpt q5 h3
        have cg2 := HE.out.cell 2
        have cg3 := HE.out.cell 3
        have cg4 := HE.out.cell 4
        have cg5 := HE.out.cell 5
        have cg6 := HE.out.cell 6
        simp only [cellsR] at cg2 cg3 cg4 cg5 cg6
        go_upto_region 10 with (go_at_call 43; (with_reducible refine (link_Put.calls k M.x0.f0 M.x0.f1 M.x0.f2 Ao co M.x0.f3 M.x0.f4 p r1 r2 r3 r4 r5 r6 r7 _ (Kd.Q_reads' HE.out.h0).2.2 HNO.out HPT.out).mono ?_); rintro e' W6 ⟨vq, rfl, hr, hb⟩; obtain ⟨Aq, cq, rfl⟩ := Kd.R_slice hr; have HR := a0_ hr; have HBW := a0_ hb; clear hr hb cg2 cg3 cg4 cg5 cg6)
        have hb7 := below_alloc HBW.out (.cells #[.int .i64 r1, .int .i64 r2, .int .i64 r3, .slice Aq r4.length cq, .int .i64 r5] 26)
        have HE7 := a0_ (HE.out.fresh hb7 0)
        have HQ7 : Aside0 (Kd.Q Kd.string 9 (W6.alloc (.cells #[.int .i64 r1, .int .i64 r2, .int .i64 r3, .slice Aq r4.length cq, .int .i64 r5] 26)) w0.heap.size (fun k => tagf fi wr.heap.size 0 k = 0) (.slice Aq r4.length cq) r4) := ⟨Kd.Q_lower (Kd.Q_mono (Kd.Q_of_R (Kd.R_below (Kd.R_bound HR.out) (below_alloc (Below.refl _ _) _))) (fun k hk => z140_)) (Nat.le_trans HB.out HSZ.out)⟩
        have hk7 := Kept9.fresh (f := fi) hb7 0
        have HP7 := a0_ (R9_kept HP.out hk7)
        have HK7 := a0_ (HK.out.trans hk7 HSZ.out)
        have hbs : w0.heap.size ≤ wr.heap.size := Nat.le_trans HB.out HSZ.out
        have HB07 := a0_ (HB0.out.trans (hb7.mono hbs))
        have HBb7 := a0_ (HBb.out.trans (hb7.mono hbs))
        have HSZ7 := a0_ (Nat.le_trans HSZ.out hb7.size)
        have BX := a0_ (blk_new W6 (.cells #[.int .i64 r1, .int .i64 r2, .int .i64 r3, .slice Aq r4.length cq, .int .i64 r5] 26))
        obtain ⟨gx, hgx⟩ : ∃ gx, gx = W6.heap.size := ⟨_, rfl⟩
        rw [← hgx] at BX ⊢
        clear hgx hb7 hk7 HE HP HK HB0 HBb HSZ HR HBW hbs hcell
        generalize W6.alloc (.cells #[.int .i64 r1, .int .i64 r2, .int .i64 r3, .slice Aq r4.length cq, .int .i64 r5] 26) = W7 at HE7 HQ7 HP7 HK7 HB07 HBb7 HSZ7 BX ⊢
        generalize tagf fi wr.heap.size 0 = f6 at HE7 HQ7 HP7 HK7
        have HE := HE7
        have HP := HP7
        have HK := HK7
        have HB0 := HB07
        have HBb := HBb7
        have HSZ := HSZ7
        clear HE7 HP7 HK7 HB07 HBb7 HSZ7
        go_upto_if 107 with (fail)
        go_cut [107, 108, 109, 110, 111, 112] (fun v107 v108 v109 v110 v111 v112 wc => ∃ M1 : RS, M1.out r6 = M2 ∧ M1.net = M.net ∧ Aside0 (∃ f7, RoadF w0.heap.size wc g M1 (.slice (some ad) l.length cl) f7 ∧ Kd.string.R 9 wc w0.heap.size (fun k => f7 k = 9) (.slice (some ad2) ps.length cp) ps ∧ Kept9 w wc f f7) ∧ Aside0 (Below w0.heap.size w0 wc) ∧ Aside0 (Below w0.heap.size w wc) ∧ Aside0 (w.heap.size ≤ wc.heap.size))
        case first =>
         by_cases q7 : r7 = 0
         ·have n7 : (r7 == 0) = true := beq_iff_eq.mpr q7
          have h3 := HM2.out
          rw [if_pos q7] at h3
          have H3 := a0_ h3
          clear q7 h3
          go_upto_region 11 with (fail)
          refine st_ 6 (S := fun w' => w'.cell? ⟨gx, 0, none⟩ = some (.int .i64 r1) ∧ w'.cell? ⟨gx, 1, none⟩ = some (.int .i64 r2) ∧ w'.cell? ⟨gx, 2, none⟩ = some (.int .i64 r3) ∧ w'.cell? ⟨gx, 3, none⟩ = some (.slice Aq r4.length cq) ∧ w'.cell? ⟨gx, 4, none⟩ = some (.int .i64 r5)) (ds := [5]) ⟨(blk_cell BX.out 0).trans rfl, (blk_cell BX.out 1).trans rfl, (blk_cell BX.out 2).trans rfl, (blk_cell BX.out 3).trans rfl, (blk_cell BX.out 4).trans rfl⟩ (fun hHeld => ?_)
          replace HE := a0_ HE.out.drew
          replace BX := a0_ (blk_drew BX.out)
          replace HB0 := a0_ (below_drew1 HB0.out)
          replace HBb := a0_ (below_drew1 HBb.out)
          replace HP : Aside0 (Kd.string.R 9 W7.drew w0.heap.size (fun k => f6 k = 9) (.slice (some ad2) ps.length cp) ps) := ⟨Kd.R_drew HP.out⟩
          replace HK : Aside0 (Kept9 w W7.drew f f6) := ⟨HK.out⟩
          replace HQ7 : Aside0 (Kd.Q Kd.string 9 W7.drew w0.heap.size (fun k => f6 k = 0) (.slice Aq r4.length cq) r4) := ⟨Kd.Q_drew HQ7.out⟩
          replace HSZ : Aside0 (w.heap.size ≤ W7.drew.heap.size) := ⟨HSZ.out⟩
          generalize W7.drew = V7 at HE BX HB0 HBb HP HK HSZ HQ7 hHeld ⊢
          refine pu_ 0 (some 108) rfl rfl ?_
          refine pu_ 2 (some 110) rfl rfl ?_
          refine pu_ 3 (some 111) rfl rfl ?_
          refine ta_ 1 (some 109) rfl rfl hHeld ?_
          refine pu_ 4 (some 112) rfl rfl ?_
          refine la_ 5 (none) rfl rfl (fun K hK => ?_)
          have cg2 := HE.out.cell 2
          have cg3 := HE.out.cell 3
          have cg4 := HE.out.cell 4
          have cg5 := HE.out.cell 5
          have cg6 := HE.out.cell 6
          simp only [cellsR] at cg2 cg3 cg4 cg5 cg6
          have fg2 := HE.out.frozen 2
          have fg3 := HE.out.frozen 3
          have fg4 := HE.out.frozen 4
          have fg5 := HE.out.frozen 5
          have fg6 := HE.out.frozen 6
          refine skip_ (w1 := ?_) (by rfl) rfl ?_ ?_
          rotate_left
          ·go_simp
           rfl
          refine hK.out _ _ ?_
          clear hK K
          refine done_ z11_ ?_
          have he9 := HE.out.setX0 ⟨r1, r2, r3, r4, r5⟩ HQ7.out
          have hk9 : Kept9 V7 (((((V7.setCell ⟨g, 2, none⟩ (.int .i64 r1)).setCell ⟨g, 3, none⟩ (.int .i64 r2)).setCell ⟨g, 4, none⟩ (.int .i64 r3)).setCell ⟨g, 5, none⟩ (.slice Aq r4.length cq)).setCell ⟨g, 6, none⟩ (.int .i64 r5)) f6 f6 := fun k hk h9 => by
           have hne : k ≠ g := fun e => by have h7 := HE.out.own; rw [← e, h9] at h7; cases h7
           refine ⟨h9, ?_⟩
           rw [Below.heap_setCell _ _ _ k hne, Below.heap_setCell _ _ _ k hne, Below.heap_setCell _ _ _ k hne, Below.heap_setCell _ _ _ k hne, Below.heap_setCell _ _ _ k hne]
          have HE9 := a0_ he9
          have HP9 := R9_kept HP.out hk9
          have HK9 := HK.out.trans hk9 HSZ.out
          have HB09 := a0_ (((((HB0.out.setCell (p := ⟨g, 2, none⟩) HE.out.low (.int .i64 r1)).setCell (p := ⟨g, 3, none⟩) HE.out.low (.int .i64 r2)).setCell (p := ⟨g, 4, none⟩) HE.out.low (.int .i64 r3)).setCell (p := ⟨g, 5, none⟩) HE.out.low (.slice Aq r4.length cq)).setCell (p := ⟨g, 6, none⟩) HE.out.low (.int .i64 r5))
          have HBb9 := a0_ (((((HBb.out.setCell (p := ⟨g, 2, none⟩) HE.out.low (.int .i64 r1)).setCell (p := ⟨g, 3, none⟩) HE.out.low (.int .i64 r2)).setCell (p := ⟨g, 4, none⟩) HE.out.low (.int .i64 r3)).setCell (p := ⟨g, 5, none⟩) HE.out.low (.slice Aq r4.length cq)).setCell (p := ⟨g, 6, none⟩) HE.out.low (.int .i64 r5))
          have HSZ9 : Aside0 (w.heap.size ≤ (((((V7.setCell ⟨g, 2, none⟩ (.int .i64 r1)).setCell ⟨g, 3, none⟩ (.int .i64 r2)).setCell ⟨g, 4, none⟩ (.int .i64 r3)).setCell ⟨g, 5, none⟩ (.slice Aq r4.length cq)).setCell ⟨g, 6, none⟩ (.int .i64 r5)).heap.size) := ⟨z143_⟩
          go_wp2
          go_meet
          case rel => exact ⟨{ M with x0 := ⟨r1, r2, r3, r4, r5⟩ }, H3.out, rfl, ⟨f6, ⟨_, _, _, _, _, _, HE9.out⟩, HP9, HK9⟩, HB09, HBb9, HSZ9⟩
         ·have n7 : (r7 == 0) = false := beq_eq_false_iff_ne.mpr q7
          have h3 := HM2.out
          rw [if_neg q7] at h3
          go_wp2
          go_meet
          case rel => exact ⟨M, h3, rfl, ⟨f6, ⟨_, _, _, _, _, _, HE.out⟩, HP.out, HK.out⟩, HB0, HBb, HSZ⟩
        case rest =>
         clear HE HP HK HB0 HBb HSZ HQ7 BX HNO
         obtain ⟨M1, hM1, hnet, HF7, HB0, HBb, HSZ⟩ := hcut
         have HNET := a0_ hnet
         clear hnet
         obtain ⟨f7, ⟨v0, v1, vn, vw, vj, vt, he⟩, hP, hK⟩ := HF7.out
         have HE := a0_ he
         have HP := a0_ hP
         have HK := a0_ hK
         clear he hP hK HF7
         unfold RS.out at hM1
         by_cases hs : r6.toList = ([] : List UInt8)
         ·have n8 : r6.toList.isEmpty = true := by rw [hs]; rfl
          have e8 : r6 = (⟨#[]⟩ : ByteArray) := by apply ByteArray.ext; apply Array.ext'; rw [ByteArray.toList_eq] at hs; exact hs
          rw [if_pos e8] at hM1
          subst hM1
          go_wp2
          go_roundw
          case measure => simp [intOf]; omega
          case rel => exact ⟨i + 1, _, f7, z2_, z30_, H', ⟨⟨_, _, _, _, _, _, HE.out⟩⟩, HP, HK, HB0, HBb, HSZ⟩
         ·have n8 : r6.toList.isEmpty = false := by cases hq : r6.toList with
           | nil => exact absurd hq hs
           | cons => rfl
          rw [if_neg (fun e => hs z144_)] at hM1
          subst hM1
          obtain ⟨An, cn, hvn, hnc, hnC⟩ := Kd.R_reads HE.out.hn
          subst hvn
          clear hnc hnC
          have x12 := HE.out.cell 12
          simp only [cellsR] at x12
          go_wp2_with (at_builtin; refine Kd.R_append k93 w0.heap.size rfl (.tmp 119) (.tmp 122) 33 93 (.agg #[.int .i64 0, .string ⟨#[]⟩]) 24 rfl Try.underlying33 infoWay rfl z17_ z2_ (.slice An M1.net.length cn) M1.net (⟨1, r6⟩ : S93) [.int .i64 1, .string r6] (fun k => f7 k = 2 ∨ wc.heap.size ≤ k) (fun _ => False) rfl ?hx ?aP (fun _ hk => hk.elim) ?aF ?aO (Below.refl _ _) ?aS ?aL ?_; (case hx => exact z141_); (case aP => exact k93_mkM _ _ _ (⟨1, r6⟩ : S93)); (case aF => exact z142_); (case aO => exact Kd.R_mono HE.out.hn (fun k hk => .inl hk)); (case aS => exact Nat.le_trans HB.out HSZ.out); (case aL => have := HQ5.out; rw [HNET.out]; omega); intro v5 w5 ho hb5 hg _; obtain ⟨A5, c5, rfl⟩ := Kd.R_slice ho; have HO := a0_ ho; have HG := a0_ hg; clear ho hb5 hg x12; have hne : f7 g ≠ 2 := z145_; have hbk := blk_grown HE.out.blk HG.out (fun e => hne (HE.out.hn.1 g e.symm)); have x12 : w5.cell? ⟨g, 12, none⟩ = some (.slice An M1.net.length cn) := (blk_cell hbk 12).trans rfl; have u12 : w5.frozen? ⟨g, 12, none⟩ = false := blk_frozen hbk 12; clear hbk hne)
          have hbs : w0.heap.size ≤ wc.heap.size := Nat.le_trans HB.out HSZ.out
          obtain ⟨f8, hf8, he8⟩ := HE.out.set_net (l := M1.net ++ [⟨1, r6⟩]) (v := .slice A5 (M1.net ++ [(⟨1, r6⟩ : S93)]).length c5) HG.out HO.out
          rw [show (M1.net ++ [(⟨1, r6⟩ : S93)]).length = M1.net.length + 1 from by simp] at he8
          have hk8 : Kept9 wc (w5.setCell ⟨g, 12, none⟩ (.slice A5 (M1.net.length + 1) c5)) f7 f8 := Kept9.row HG.out (fun k hk e => by have h5 : f7 k = 2 := HE.out.hn.1 k hk; rw [e] at h5; cases h5) hf8 z145_
          have HE8 := a0_ he8
          have HP8 := a0_ (R9_kept HP.out hk8)
          have HK8 := a0_ (HK.out.trans hk8 HSZ.out)
          have HB08 := a0_ ((pw_below_grown HB0.out _ hbs HG.out (fun k hk => Kd.R_base HE.out.hn k hk)).setCell (p := ⟨g, 12, none⟩) HE.out.low (.slice A5 (M1.net.length + 1) c5))
          have HBb8 := a0_ ((pw_below_grown HBb.out _ hbs HG.out (fun k hk => Kd.R_base HE.out.hn k hk)).setCell (p := ⟨g, 12, none⟩) HE.out.low (.slice A5 (M1.net.length + 1) c5))
          have HSZ8 : Aside0 (w.heap.size ≤ (w5.setCell ⟨g, 12, none⟩ (.slice A5 (M1.net.length + 1) c5)).heap.size) := ⟨z146_⟩
          go_roundw
          case measure => simp [intOf]; omega
          case rel => exact ⟨i + 1, _, f8, z2_, z30_, H', ⟨⟨_, _, _, _, _, _, HE8.out⟩⟩, HP8, HK8, HB08, HBb8, HSZ8⟩
       ·rw [if_neg q5] at h3; cases h3
      ·obtain rfl : i = ps.length := by omega
       have h := H.out
       rw [List.drop_length, RS.puts] at h
       obtain rfl := Option.some.inj h
       clear H
       go_wp2
       refine bodyPost_end (results_none rfl _ _ _) rfl ?_
       exact ⟨rfl, ⟨fi, HM.out, HK.out⟩, HBb.out⟩
    ·rw [if_neg q4] at H2; cases H2
   ·rw [if_pos (.inr (.inr z2_))] at H2
    obtain rfl := Option.some.inj H2
    have n3 : decide (64 < (ps.length : Int)) = true := decide_eq_true z2_
    have n3' : decide (64 < ps.length) = true := decide_eq_true z2_
    go_wp2
    refine bodyPost_ret (results_none rfl _ _ _) rfl ?_
    exact ⟨rfl, ⟨f3, ⟨_, _, _, _, _, _, HE3.out⟩, HK3.out⟩, HBb3.out⟩
  ·rw [if_pos (.inr (.inl q2))] at H2
   obtain rfl := Option.some.inj H2
   have n2 : (e2 != 0) = true := bne_iff_ne.mpr q2
   go_wp2
   refine bodyPost_ret (results_none rfl _ _ _) rfl ?_
   exact ⟨rfl, ⟨f3, ⟨_, _, _, _, _, _, HE3.out⟩, HK3.out⟩, HBb3.out⟩
 ·rw [if_pos (.inl q1)] at H2
  obtain rfl := Option.some.inj H2
  have n1 : (e != 0) = true := bne_iff_ne.mpr q1
  go_wp2
  refine bodyPost_ret (results_none rfl _ _ _) rfl ?_
  exact ⟨rfl, ⟨f3, ⟨_, _, _, _, _, _, HE3.out⟩, HK3.out⟩, HBb3.out⟩
end Go.Proofs.Ytecfndblgefhdaa.P
