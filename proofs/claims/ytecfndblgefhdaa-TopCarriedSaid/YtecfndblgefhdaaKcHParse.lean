import Derived.Test.YtecfndblgefhdaaKcPx17
set_option linter.unusedVariables false
set_option linter.unusedSimpArgs false
namespace Go.Proofs.Ytecfndblgefhdaa.P
open Go.RowKit Go.Proofs.YtecfndblgefhdaaW.PrintWords Go.Proofs.YtecfndblgefhdaaW.PrintLast Go.Proofs.YtecfndblgefhdaaW.PrintMore
attribute [local go_sem] max2_int min2_int max_two min_two max_three min_three max_four min_four
theorem infoIn : (Try.prog.info? 3).map (fun i => (i.zero, i.size, i.bytes)) = some (some (.int .i64 0), 1, 8) := by kernel_rfl
theorem row_grown {α β : Type} {d : Kd α} {d2 : Kd β} {e e2 base base2 : Nat} {ok ok2 : Nat → Prop} {W W1 : World} {v v2 : Value} {xs : List α} {ys : List β} (h : d.R e W base ok v xs) (hg : W.grownBy W1 v2.ownBlock) (h2 : d2.R e2 W base2 ok2 v2 ys) (ht : ∀ q, q ∈ e :: d.E → ∀ q2, q2 ∈ e2 :: d2.E → q ≠ q2) : d.R e W1 base ok v xs := by
 refine Kd.R_mono (Kd.R_step (Kd.R_bound h) (fun k hk hlt => hg.block k hlt (fun e1 => ?_))) (fun k hk => hk.1)
 obtain ⟨_, _, _, q, hq, c, hc⟩ := hk
 obtain ⟨_, _, _, q2, hq2, c2, hc2⟩ := (Kd.R_bound h2).1 k e1.symm
 rw [hc] at hc2
 injection hc2 with hc2
 injection hc2 with _ h5 _
 exact ht q hq q2 hq2 h5
def msg_szs (k : Nat) : Nat → List Int → ByteArray → Option (List Int × ByteArray)
 | 0, out, s => some (out, s)
 | n + 1, out, s => (msg_rdr k s 1).bind fun a => if out.length < 4398046511104 then msg_szs k n (out ++ [a.1]) a.2 else none
def msg_Parse.f (k : Nat) (s : ByteArray) : Option S53 :=
 (msg_rdr k s 1).bind fun a0 => (msg_rdr k a0.2 8).bind fun a1 => (msg_lin k a1.2).bind fun a2 => (msg_rdr k a2.2 8).bind fun a3 => (msg_rdr k a3.2 8).bind fun a4 => (msg_rdr k a4.2 8).bind fun a5 => (msg_rdr k a5.2 1).bind fun a6 =>
 (msg_lin k a6.2).bind fun a7 => (msg_rdr k a7.2 8).bind fun a8 => (dirty_Parse.f k a8.2).bind fun a9 => if a9.2.2 = 0 ∧ a6.1 ≤ 1 then (msg_rdr k a9.2.1 1).bind fun c => if c.1 ≤ 65535 then (msg_szs k c.1.toNat [] c.2).bind fun a10 => (msg_rdr k a10.2 8).bind fun a11 => (msg_rdr k a11.2 8).bind fun a12 =>
 (msg_wrs k a12.2).bind fun a13 => if a13.2 = (⟨#[]⟩ : ByteArray) then (msg_Right.f k a0.1 a1.1 a2.1 a3.1 a4.1 a5.1 (a6.1 == 1) a7.1 a8.1 a9.1 a10.1 a11.1 a12.1 a13.1).bind fun b => if b = true then some ⟨a0.1, a1.1, a2.1, a3.1, a4.1, a5.1, a6.1 == 1, ⟨a7.1, a8.1⟩, a9.1, a10.1, ⟨a11.1, a12.1, a13.1⟩⟩ else none else none else none else none
set_option maxHeartbeats 8000000 in
set_option maxRecDepth 100000 in
theorem msg_Parse.calls (k : Nat) (s : ByteArray) (m : S53) (w : World) (h : msg_Parse.f k s = some m) :
  Calls Try.prog 9 #[.string s] w fun e w' => ∃ cs : List Value, e = .returned (.tuple #[.agg cs.toArray, .int .i64 0]) ∧ Kd.K k53 w' m cs ∧ Below w.heap.size w w' := by
 unfold msg_Parse.f at h
 obtain ⟨⟨n0, s0⟩, h0, g0⟩ := Option.bind_eq_some_iff.1 h
 obtain ⟨⟨n1, s1⟩, h1, g1⟩ := Option.bind_eq_some_iff.1 g0
 obtain ⟨⟨l2, s2⟩, h2, g2⟩ := Option.bind_eq_some_iff.1 g1
 obtain ⟨⟨n3, s3⟩, h3, g3⟩ := Option.bind_eq_some_iff.1 g2
 obtain ⟨⟨n4, s4⟩, h4, g4⟩ := Option.bind_eq_some_iff.1 g3
 obtain ⟨⟨n5, s5⟩, h5, g5⟩ := Option.bind_eq_some_iff.1 g4
 obtain ⟨⟨n6, s6⟩, h6, g6⟩ := Option.bind_eq_some_iff.1 g5
 obtain ⟨⟨l7, s7⟩, h7, g7⟩ := Option.bind_eq_some_iff.1 g6
 obtain ⟨⟨n8, s8⟩, h8, g8⟩ := Option.bind_eq_some_iff.1 g7
 obtain ⟨⟨l9, s9, e9⟩, h9, g9⟩ := Option.bind_eq_some_iff.1 g8
 clear h g0 g1 g2 g3 g4 g5 g6 g7 g8
 simp only at h0 h1 h2 h3 h4 h5 h6 h7 h8 h9 g9
 by_cases c9 : e9 = 0 ∧ n6 ≤ 1
 ·rw [if_pos c9] at g9
  obtain ⟨rfl, hfull⟩ := c9
  obtain ⟨⟨nc, sc⟩, hc, gc⟩ := Option.bind_eq_some_iff.1 g9
  clear g9
  simp only at hc gc
  by_cases hmax : nc ≤ 65535
  ·rw [if_pos hmax] at gc
   obtain ⟨⟨l10, s10⟩, h10, g10⟩ := Option.bind_eq_some_iff.1 gc
   obtain ⟨⟨n11, s11⟩, h11, g11⟩ := Option.bind_eq_some_iff.1 g10
   obtain ⟨⟨n12, s12⟩, h12, g12⟩ := Option.bind_eq_some_iff.1 g11
   obtain ⟨⟨l13, s13⟩, h13, g13⟩ := Option.bind_eq_some_iff.1 g12
   clear gc g10 g11 g12
   simp only at h10 h11 h12 h13 g13
   by_cases c13 : s13 = (⟨#[]⟩ : ByteArray)
   ·rw [if_pos c13] at g13
    subst c13
    obtain ⟨b, hb, g14⟩ := Option.bind_eq_some_iff.1 g13
    clear g13
    cases b with
    | false => rw [if_neg (by simp)] at g14; cases g14
    | true =>
     rw [if_pos rfl] at g14
     obtain rfl := Option.some.inj g14
     clear g14
     have A0 := a0_ (rdr_some h0)
     have A1 := a0_ (rdr_some h1)
     have A2 := a0_ (lin_some h2)
     have A3 := a0_ (rdr_some h3)
     have A4 := a0_ (rdr_some h4)
     have A5 := a0_ (rdr_some h5)
     have A6 := a0_ (rdr_some h6)
     have A7 := a0_ (lin_some h7)
     have A8 := a0_ (rdr_some h8)
     have A9 := a0_ h9
     have AC := a0_ (rdr_some hc)
     have A10 := a0_ h10
     have A11 := a0_ (rdr_some h11)
     have A12 := a0_ (rdr_some h12)
     have A13 := a0_ h13
     have AR := a0_ hb
     clear h0 h1 h2 h3 h4 h5 h6 h7 h8 h9 hc h10 h11 h12 h13 hb
     go_enter Try.func9, Try.ntmps9
     go_upto_region 3 with (first | ((with_reducible refine gate_dst (N := 2) rfl ?_); refine box_event ?hg (N := 2) ?hd (cs := #[.int .i64 0, .int .i64 0, .slice none 0 0, .int .i64 0, .int .i64 0, .int .i64 0, .bool false, .slice none 0 0, .int .i64 0, .slice none 0 0, .slice none 0 0, .int .i64 0, .int .i64 0, .slice none 0 0]) (t := 53) ?hr ?_; (case hd => rfl); (case hg => rfl); (case hr => exact z89_); intro gq hg_ Wgq hbox hb; have BQ := a0_ hbox; have HB := a0_ hb; have GQ : Aside0 (w.heap.size ≤ gq) := ⟨by rw [hg_]; exact Nat.le_refl _⟩; clear hbox hb hg_) | ((with_reducible refine gate_dst (N := 12) rfl ?_); refine box_event ?hg (N := 12) ?hd (cs := #[.string s, .bool false]) (t := 101) ?hr ?_; (case hd => rfl); (case hg => rfl); (case hr => exact z89_); intro gr hg_ Wgr hbox hb; have QR : Aside0 (gq ≠ gr) := ⟨by have := blk_lt BQ.out; omega⟩; have HI : Aside0 (IsS101 w Wgr gr s false) := ⟨⟨hbox, by rw [hg_]; exact HB.out.size⟩⟩; have BQn := a0_ (blk_below BQ.out hb); have HBn := a0_ (below_step HB.out hb); clear hbox hb hg_ BQ HB; have BQ := BQn; have HB := HBn; clear BQn HBn) | ((with_reducible refine gate_dst (N := 5) rfl ?_); refine box_event ?hg (N := 5) ?hd (cs := #[.int .i64 0, .int .i64 0, .slice none 0 0, .int .i64 0, .int .i64 0, .int .i64 0, .bool false, .slice none 0 0, .int .i64 0, .slice none 0 0, .slice none 0 0, .int .i64 0, .int .i64 0, .slice none 0 0]) (t := 53) ?hr ?_; (case hd => rfl); (case hg => rfl); (case hr => exact z89_); intro gm hg_ Wgm hbox hb; have QM : Aside0 (gq ≠ gm) := ⟨by have := blk_lt BQ.out; omega⟩; have RM : Aside0 (gr ≠ gm) := ⟨by have := IsS101.lt HI.out; omega⟩; have MR : Aside0 (gm ≠ gr) := ⟨Ne.symm RM.out⟩; have BM := a0_ hbox; have GM : Aside0 (w.heap.size ≤ gm) := ⟨by rw [hg_]; exact HB.out.size⟩; have BQn := a0_ (blk_below BQ.out hb); have HBn := a0_ (below_step HB.out hb); have HIn := a0_ (IsS101.below HI.out hb); clear hbox hb hg_ BQ HB HI; have BQ := BQn; have HB := HBn; have HI := HIn; clear BQn HBn HIn; have LM := a0_ (blk_lt BM.out); have LR := a0_ (IsS101.lt HI.out); have LQ := a0_ (blk_lt BQ.out)))
     go_upto_region 4 with (first | (go_at_call 33; (with_reducible refine (msg_reader_number.calls k gr s false 1 n0 s0 false w _ HI.out HB.out A0.out).mono ?_); rintro e W0 ⟨rfl, hi, hb, hk⟩; have hb2 := hb; have HIn := a0_ hi; have HBn := a0_ hb2; have BMn := a0_ (hk.blk BM.out MR.out (by simp)); have BQn := a0_ (hk.blk BQ.out QR.out (by simp)); have LMn := a0_ (blk_lt BMn.out); have LRn := a0_ (IsS101.lt hi); have LQn := a0_ (blk_lt BQn.out); clear hi hb2 hk hb HI HB BM BQ LM LR LQ; have HI := HIn; have HB := HBn; have BM := BMn; have BQ := BQn; have LM := LMn; have LR := LRn; have LQ := LQn; clear HIn HBn BMn BQn LMn LRn LQn) | (go_at_call 33; (with_reducible refine (msg_reader_number.calls k gr s0 false 8 n1 s1 false w _ HI.out HB.out A1.out).mono ?_); rintro e W1 ⟨rfl, hi, hb, hk⟩; have hb2 := hb; have HIn := a0_ hi; have HBn := a0_ hb2; have BMn := a0_ (hk.blk BM.out MR.out (by simp)); have BQn := a0_ (hk.blk BQ.out QR.out (by simp)); have LMn := a0_ (blk_lt BMn.out); have LRn := a0_ (IsS101.lt hi); have LQn := a0_ (blk_lt BQn.out); clear hi hb2 hk hb HI HB BM BQ LM LR LQ; have HI := HIn; have HB := HBn; have BM := BMn; have BQ := BQn; have LM := LMn; have LR := LRn; have LQ := LQn; clear HIn HBn BMn BQn LMn LRn LQn) | (go_at_call 34; (with_reducible refine (msg_reader_line.calls k gr s1 false l2 s2 false w _ HI.out HB.out A2.out).mono ?_); rintro e W2 ⟨v2, rfl, hr, hi, hb, hk⟩; obtain ⟨A2, c2, rfl, hc2, hC2⟩ := Kd.R_reads hr; clear hc2 hC2; have hb2 := hb; have HRn := a0_ (Kd.R_mono (Kd.R_bound hr) (fun k hk_ => (⟨z170_, z171_, z172_⟩ : k ≠ gm ∧ k ≠ gr ∧ k ≠ gq))); have HIn := a0_ hi; have HBn := a0_ hb2; have BMn := a0_ (hk.blk BM.out MR.out (by simp)); have BQn := a0_ (hk.blk BQ.out QR.out (by simp)); have LMn := a0_ (blk_lt BMn.out); have LRn := a0_ (IsS101.lt hi); have LQn := a0_ (blk_lt BQn.out); clear hi hb2 hk hb hr HI HB BM BQ LM LR LQ; have HI := HIn; have HB := HBn; have BM := BMn; have BQ := BQn; have LM := LMn; have LR := LRn; have LQ := LQn; clear HIn HBn BMn BQn LMn LRn LQn; have HR2 := HRn; clear HRn; obtain ⟨cm0, cm1, cm2⟩ := bc3_ BM.out; obtain ⟨fm0, fm1, fm2⟩ := bf3_ BM.out))
     have HIn := a0_ (IsS101.far (IsS101.far (IsS101.far HI.out (p := ⟨gm, 0, none⟩) RM.out (.int .i64 n0)) (p := ⟨gm, 1, none⟩) RM.out (.int .i64 n1)) (p := ⟨gm, 2, none⟩) RM.out (.slice A2 l2.length c2))
     have HBn := a0_ (below_set (v := .slice A2 l2.length c2) (j := 2) (below_set (v := .int .i64 n1) (j := 1) (below_set (v := .int .i64 n0) (j := 0) HB.out GM.out) GM.out) GM.out)
     have BMn := a0_ (blk_put (blk_put (blk_put BM.out 0 (.int .i64 n0) (cs' := #[.int .i64 n0, .int .i64 0, .slice none 0 0, .int .i64 0, .int .i64 0, .int .i64 0, .bool false, .slice none 0 0, .int .i64 0, .slice none 0 0, .slice none 0 0, .int .i64 0, .int .i64 0, .slice none 0 0]) rfl) 1 (.int .i64 n1) (cs' := #[.int .i64 n0, .int .i64 n1, .slice none 0 0, .int .i64 0, .int .i64 0, .int .i64 0, .bool false, .slice none 0 0, .int .i64 0, .slice none 0 0, .slice none 0 0, .int .i64 0, .int .i64 0, .slice none 0 0]) rfl) 2 (.slice A2 l2.length c2) (cs' := #[.int .i64 n0, .int .i64 n1, .slice A2 l2.length c2, .int .i64 0, .int .i64 0, .int .i64 0, .bool false, .slice none 0 0, .int .i64 0, .slice none 0 0, .slice none 0 0, .int .i64 0, .int .i64 0, .slice none 0 0]) rfl)
     have BQn := a0_ (blk_far (blk_far (blk_far BQ.out (p := ⟨gm, 0, none⟩) QM.out (.int .i64 n0)) (p := ⟨gm, 1, none⟩) QM.out (.int .i64 n1)) (p := ⟨gm, 2, none⟩) QM.out (.slice A2 l2.length c2))
     have HN2 := a0_ (Kd.R_far (Kd.R_far (Kd.R_far HR2.out (p := ⟨gm, 0, none⟩) (fun k hk => hk.1) (.int .i64 n0)) (p := ⟨gm, 1, none⟩) (fun k hk => hk.1) (.int .i64 n1)) (p := ⟨gm, 2, none⟩) (fun k hk => hk.1) (.slice A2 l2.length c2))
     clear cm0 fm0 cm1 fm1 cm2 fm2
     clear HI HB BM BQ LM LR LQ HR2
     have HI := HIn
     have HB := HBn
     have BM := BMn
     have BQ := BQn
     clear HIn HBn BMn BQn
     have HR2 := HN2
     clear HN2
     generalize ((W2.setCell ⟨gm, 0, none⟩ (.int .i64 n0)).setCell ⟨gm, 1, none⟩ (.int .i64 n1)).setCell ⟨gm, 2, none⟩ (.slice A2 l2.length c2) = V2 at HI HB BM BQ HR2 ⊢
     have LM := a0_ (blk_lt BM.out)
     have LR := a0_ (IsS101.lt HI.out)
     have LQ := a0_ (blk_lt BQ.out)
     go_upto_region 5 with (first | (go_at_call 33; (with_reducible refine (msg_reader_number.calls k gr s2 false 8 n3 s3 false w _ HI.out HB.out A3.out).mono ?_); rintro e W3 ⟨rfl, hi, hb, hk⟩; have hb2 := hb; have HIn := a0_ hi; have HBn := a0_ hb2; have BMn := a0_ (hk.blk BM.out MR.out (by simp)); have BQn := a0_ (hk.blk BQ.out QR.out (by simp)); have HN2 := a0_ (Kd.R_keep HR2.out hk (fun k h => h.2.1)); have LMn := a0_ (blk_lt BMn.out); have LRn := a0_ (IsS101.lt hi); have LQn := a0_ (blk_lt BQn.out); clear hi hb2 hk hb HI HB BM BQ LM LR LQ; clear HR2; have HI := HIn; have HB := HBn; have BM := BMn; have BQ := BQn; have LM := LMn; have LR := LRn; have LQ := LQn; clear HIn HBn BMn BQn LMn LRn LQn; have HR2 := HN2; clear HN2) | (go_at_call 33; (with_reducible refine (msg_reader_number.calls k gr s3 false 8 n4 s4 false w _ HI.out HB.out A4.out).mono ?_); rintro e W4 ⟨rfl, hi, hb, hk⟩; have hb2 := hb; have HIn := a0_ hi; have HBn := a0_ hb2; have BMn := a0_ (hk.blk BM.out MR.out (by simp)); have BQn := a0_ (hk.blk BQ.out QR.out (by simp)); have HN2 := a0_ (Kd.R_keep HR2.out hk (fun k h => h.2.1)); have LMn := a0_ (blk_lt BMn.out); have LRn := a0_ (IsS101.lt hi); have LQn := a0_ (blk_lt BQn.out); clear hi hb2 hk hb HI HB BM BQ LM LR LQ; clear HR2; have HI := HIn; have HB := HBn; have BM := BMn; have BQ := BQn; have LM := LMn; have LR := LRn; have LQ := LQn; clear HIn HBn BMn BQn LMn LRn LQn; have HR2 := HN2; clear HN2) | (go_at_call 33; (with_reducible refine (msg_reader_number.calls k gr s4 false 8 n5 s5 false w _ HI.out HB.out A5.out).mono ?_); rintro e W5 ⟨rfl, hi, hb, hk⟩; have hb2 := hb; have HIn := a0_ hi; have HBn := a0_ hb2; have BMn := a0_ (hk.blk BM.out MR.out (by simp)); have BQn := a0_ (hk.blk BQ.out QR.out (by simp)); have HN2 := a0_ (Kd.R_keep HR2.out hk (fun k h => h.2.1)); have LMn := a0_ (blk_lt BMn.out); have LRn := a0_ (IsS101.lt hi); have LQn := a0_ (blk_lt BQn.out); clear hi hb2 hk hb HI HB BM BQ LM LR LQ; clear HR2; have HI := HIn; have HB := HBn; have BM := BMn; have BQ := BQn; have LM := LMn; have LR := LRn; have LQ := LQn; clear HIn HBn BMn BQn LMn LRn LQn; have HR2 := HN2; clear HN2; have cm3 := blk_cell BM.out 3; have cm4 := blk_cell BM.out 4; have cm5 := blk_cell BM.out 5; have fm3 := blk_frozen BM.out 3; have fm4 := blk_frozen BM.out 4; have fm5 := blk_frozen BM.out 5))
     have HIn := a0_ (IsS101.far (IsS101.far (IsS101.far HI.out (p := ⟨gm, 3, none⟩) RM.out (.int .i64 n3)) (p := ⟨gm, 4, none⟩) RM.out (.int .i64 n4)) (p := ⟨gm, 5, none⟩) RM.out (.int .i64 n5))
     have HBn := a0_ (below_set (v := .int .i64 n5) (j := 5) (below_set (v := .int .i64 n4) (j := 4) (below_set (v := .int .i64 n3) (j := 3) HB.out GM.out) GM.out) GM.out)
     have BMn := a0_ (blk_put (blk_put (blk_put BM.out 3 (.int .i64 n3) (cs' := #[.int .i64 n0, .int .i64 n1, .slice A2 l2.length c2, .int .i64 n3, .int .i64 0, .int .i64 0, .bool false, .slice none 0 0, .int .i64 0, .slice none 0 0, .slice none 0 0, .int .i64 0, .int .i64 0, .slice none 0 0]) rfl) 4 (.int .i64 n4) (cs' := #[.int .i64 n0, .int .i64 n1, .slice A2 l2.length c2, .int .i64 n3, .int .i64 n4, .int .i64 0, .bool false, .slice none 0 0, .int .i64 0, .slice none 0 0, .slice none 0 0, .int .i64 0, .int .i64 0, .slice none 0 0]) rfl) 5 (.int .i64 n5) (cs' := #[.int .i64 n0, .int .i64 n1, .slice A2 l2.length c2, .int .i64 n3, .int .i64 n4, .int .i64 n5, .bool false, .slice none 0 0, .int .i64 0, .slice none 0 0, .slice none 0 0, .int .i64 0, .int .i64 0, .slice none 0 0]) rfl)
     have BQn := a0_ (blk_far (blk_far (blk_far BQ.out (p := ⟨gm, 3, none⟩) QM.out (.int .i64 n3)) (p := ⟨gm, 4, none⟩) QM.out (.int .i64 n4)) (p := ⟨gm, 5, none⟩) QM.out (.int .i64 n5))
     have HN2 := a0_ (Kd.R_far (Kd.R_far (Kd.R_far HR2.out (p := ⟨gm, 3, none⟩) (fun k hk => hk.1) (.int .i64 n3)) (p := ⟨gm, 4, none⟩) (fun k hk => hk.1) (.int .i64 n4)) (p := ⟨gm, 5, none⟩) (fun k hk => hk.1) (.int .i64 n5))
     clear cm3 fm3 cm4 fm4 cm5 fm5
     clear HI HB BM BQ LM LR LQ HR2
     have HI := HIn
     have HB := HBn
     have BM := BMn
     have BQ := BQn
     clear HIn HBn BMn BQn
     have HR2 := HN2
     clear HN2
     generalize ((W5.setCell ⟨gm, 3, none⟩ (.int .i64 n3)).setCell ⟨gm, 4, none⟩ (.int .i64 n4)).setCell ⟨gm, 5, none⟩ (.int .i64 n5) = V5 at HI HB BM BQ HR2 ⊢
     have LM := a0_ (blk_lt BM.out)
     have LR := a0_ (IsS101.lt HI.out)
     have LQ := a0_ (blk_lt BQ.out)
     go_upto_region 7 with ((go_at_call 33; (with_reducible refine (msg_reader_number.calls k gr s5 false 1 n6 s6 false w _ HI.out HB.out A6.out).mono ?_); rintro e W6 ⟨rfl, hi, hb, hk⟩; have hb2 := hb; have HIn := a0_ hi; have HBn := a0_ hb2; have BMn := a0_ (hk.blk BM.out MR.out (by simp)); have BQn := a0_ (hk.blk BQ.out QR.out (by simp)); have HN2 := a0_ (Kd.R_keep HR2.out hk (fun k h => h.2.1)); have LMn := a0_ (blk_lt BMn.out); have LRn := a0_ (IsS101.lt hi); have LQn := a0_ (blk_lt BQn.out); clear hi hb2 hk hb HI HB BM BQ LM LR LQ; clear HR2; have HI := HIn; have HB := HBn; have BM := BMn; have BQ := BQn; have LM := LMn; have LR := LRn; have LQ := LQn; clear HIn HBn BMn BQn LMn LRn LQn; have HR2 := HN2; clear HN2; have cm6 := blk_cell BM.out 6; have fm6 := blk_frozen BM.out 6))
     have HIn := a0_ (IsS101.far HI.out (p := ⟨gm, 6, none⟩) RM.out (.bool (n6 == 1)))
     have HBn := a0_ (below_set (v := .bool (n6 == 1)) (j := 6) HB.out GM.out)
     have BMn := a0_ (blk_put BM.out 6 (.bool (n6 == 1)) (cs' := #[.int .i64 n0, .int .i64 n1, .slice A2 l2.length c2, .int .i64 n3, .int .i64 n4, .int .i64 n5, .bool (n6 == 1), .slice none 0 0, .int .i64 0, .slice none 0 0, .slice none 0 0, .int .i64 0, .int .i64 0, .slice none 0 0]) rfl)
     have BQn := a0_ (blk_far BQ.out (p := ⟨gm, 6, none⟩) QM.out (.bool (n6 == 1)))
     have HN2 := a0_ (Kd.R_far HR2.out (p := ⟨gm, 6, none⟩) (fun k hk => hk.1) (.bool (n6 == 1)))
     clear cm6 fm6
     clear HI HB BM BQ LM LR LQ HR2
     have HI := HIn
     have HB := HBn
     have BM := BMn
     have BQ := BQn
     clear HIn HBn BMn BQn
     have HR2 := HN2
     clear HN2
     generalize W6.setCell ⟨gm, 6, none⟩ (.bool (n6 == 1)) = V6 at HI HB BM BQ HR2 ⊢
     have LM := a0_ (blk_lt BM.out)
     have LR := a0_ (IsS101.lt HI.out)
     have LQ := a0_ (blk_lt BQ.out)
     go_upto_region 8 with (first | (go_at_call 34; (with_reducible refine (msg_reader_line.calls k gr s6 false l7 s7 false w _ HI.out HB.out A7.out).mono ?_); rintro e W7 ⟨v7, rfl, hr, hi, hb, hk⟩; obtain ⟨A7, c7, rfl, hc7, hC7⟩ := Kd.R_reads hr; clear hc7 hC7; have hb2 := hb; have HRn := a0_ (Kd.R_mono (Kd.R_bound hr) (fun k hk_ => (⟨z170_, z171_, z172_⟩ : k ≠ gm ∧ k ≠ gr ∧ k ≠ gq))); have HIn := a0_ hi; have HBn := a0_ hb2; have BMn := a0_ (hk.blk BM.out MR.out (by simp)); have BQn := a0_ (hk.blk BQ.out QR.out (by simp)); have HN2 := a0_ (Kd.R_keep HR2.out hk (fun k h => h.2.1)); have LMn := a0_ (blk_lt BMn.out); have LRn := a0_ (IsS101.lt hi); have LQn := a0_ (blk_lt BQn.out); clear hi hb2 hk hb hr HI HB BM BQ LM LR LQ; clear HR2; have HI := HIn; have HB := HBn; have BM := BMn; have BQ := BQn; have LM := LMn; have LR := LRn; have LQ := LQn; clear HIn HBn BMn BQn LMn LRn LQn; have HR2 := HN2; clear HN2; have HR7 := HRn; clear HRn) | (go_at_call 33; (with_reducible refine (msg_reader_number.calls k gr s7 false 8 n8 s8 false w _ HI.out HB.out A8.out).mono ?_); rintro e W8 ⟨rfl, hi, hb, hk⟩; have hb2 := hb; have HIn := a0_ hi; have HBn := a0_ hb2; have BMn := a0_ (hk.blk BM.out MR.out (by simp)); have BQn := a0_ (hk.blk BQ.out QR.out (by simp)); have HN2 := a0_ (Kd.R_keep HR2.out hk (fun k h => h.2.1)); have HN7 := a0_ (Kd.R_keep HR7.out hk (fun k h => h.2.1)); have LMn := a0_ (blk_lt BMn.out); have LRn := a0_ (IsS101.lt hi); have LQn := a0_ (blk_lt BQn.out); clear hi hb2 hk hb HI HB BM BQ LM LR LQ; clear HR2 HR7; have HI := HIn; have HB := HBn; have BM := BMn; have BQ := BQn; have LM := LMn; have LR := LRn; have LQ := LQn; clear HIn HBn BMn BQn LMn LRn LQn; have HR2 := HN2; clear HN2; have HR7 := HN7; clear HN7; have cm7 := blk_cell BM.out 7; have cm8 := blk_cell BM.out 8; have fm7 := blk_frozen BM.out 7; have fm8 := blk_frozen BM.out 8))
     have HIn := a0_ (IsS101.far (IsS101.far HI.out (p := ⟨gm, 7, none⟩) RM.out (.slice A7 l7.length c7)) (p := ⟨gm, 8, none⟩) RM.out (.int .i64 n8))
     have HBn := a0_ (below_set (v := .int .i64 n8) (j := 8) (below_set (v := .slice A7 l7.length c7) (j := 7) HB.out GM.out) GM.out)
     have BMn := a0_ (blk_put (blk_put BM.out 7 (.slice A7 l7.length c7) (cs' := #[.int .i64 n0, .int .i64 n1, .slice A2 l2.length c2, .int .i64 n3, .int .i64 n4, .int .i64 n5, .bool (n6 == 1), .slice A7 l7.length c7, .int .i64 0, .slice none 0 0, .slice none 0 0, .int .i64 0, .int .i64 0, .slice none 0 0]) rfl) 8 (.int .i64 n8) (cs' := #[.int .i64 n0, .int .i64 n1, .slice A2 l2.length c2, .int .i64 n3, .int .i64 n4, .int .i64 n5, .bool (n6 == 1), .slice A7 l7.length c7, .int .i64 n8, .slice none 0 0, .slice none 0 0, .int .i64 0, .int .i64 0, .slice none 0 0]) rfl)
     have BQn := a0_ (blk_far (blk_far BQ.out (p := ⟨gm, 7, none⟩) QM.out (.slice A7 l7.length c7)) (p := ⟨gm, 8, none⟩) QM.out (.int .i64 n8))
     have HN2 := a0_ (Kd.R_far (Kd.R_far HR2.out (p := ⟨gm, 7, none⟩) (fun k hk => hk.1) (.slice A7 l7.length c7)) (p := ⟨gm, 8, none⟩) (fun k hk => hk.1) (.int .i64 n8))
     have HN7 := a0_ (Kd.R_far (Kd.R_far HR7.out (p := ⟨gm, 7, none⟩) (fun k hk => hk.1) (.slice A7 l7.length c7)) (p := ⟨gm, 8, none⟩) (fun k hk => hk.1) (.int .i64 n8))
     clear cm7 fm7 cm8 fm8
     clear HI HB BM BQ LM LR LQ HR2 HR7
     have HI := HIn
     have HB := HBn
     have BM := BMn
     have BQ := BQn
     clear HIn HBn BMn BQn
     have HR2 := HN2
     clear HN2
     have HR7 := HN7
     clear HN7
     generalize (W8.setCell ⟨gm, 7, none⟩ (.slice A7 l7.length c7)).setCell ⟨gm, 8, none⟩ (.int .i64 n8) = V8 at HI HB BM BQ HR2 HR7 ⊢
     have LM := a0_ (blk_lt BM.out)
     have LR := a0_ (IsS101.lt HI.out)
     have LQ := a0_ (blk_lt BQ.out)
     have x0 := cellS101_0 HI.out.1
     have cf : decide (1 < n6) = false := decide_eq_false z2_
     go_upto_region 11 with ((go_at_call 35; (with_reducible refine (dirty_Parse.calls k s8 l9 s9 0 _ A9.out).mono ?_); rintro e W9 ⟨v9, rfl, hr, hb⟩; clear x0; obtain ⟨A9, c9, rfl, hc9, hC9⟩ := Kd.R_reads hr; clear hc9 hC9; have hk := KeepBut.of_below hb gr none; have hi := IsS101.below HI.out hb; have hb2 := below_step HB.out hb; have HRn := a0_ (Kd.R_mono (Kd.R_bound hr) (fun k hk_ => (⟨z170_, z171_, z172_⟩ : k ≠ gm ∧ k ≠ gr ∧ k ≠ gq))); have HIn := a0_ hi; have HBn := a0_ hb2; have BMn := a0_ (hk.blk BM.out MR.out (by simp)); have BQn := a0_ (hk.blk BQ.out QR.out (by simp)); have HN2 := a0_ (Kd.R_keep HR2.out hk (fun k h => h.2.1)); have HN7 := a0_ (Kd.R_keep HR7.out hk (fun k h => h.2.1)); have LMn := a0_ (blk_lt BMn.out); have LRn := a0_ (IsS101.lt hi); have LQn := a0_ (blk_lt BQn.out); clear hi hb2 hk hb hr HI HB BM BQ LM LR LQ; clear HR2 HR7; have HI := HIn; have HB := HBn; have BM := BMn; have BQ := BQn; have LM := LMn; have LR := LRn; have LQ := LQn; clear HIn HBn BMn BQn LMn LRn LQn; have HR2 := HN2; clear HN2; have HR7 := HN7; clear HN7; have HR9 := HRn; clear HRn; have x1 := cellS101_1 HI.out.1))
     clear x1
     have x0 := cellS101_0 HI.out.1
     have f0 := blk_frozen HI.out.1 0
     have cm9 := blk_cell BM.out 9
     have fm9 := blk_frozen BM.out 9
     have rm := RM.out
     have mr := MR.out
     go_upto_region 12 with (fail)
     clear x0 f0 rm mr
     have HIn := a0_ (IsS101.set_0 (IsS101.far HI.out (p := ⟨gm, 9, none⟩) RM.out (.slice A9 l9.length c9)) s9)
     have HBn := a0_ (below_set (v := .string s9) (j := 0) (below_set (v := .slice A9 l9.length c9) (j := 9) HB.out GM.out) (IsS101.ge HI.out))
     have BMn := a0_ (blk_far (blk_put BM.out 9 (.slice A9 l9.length c9) (cs' := #[.int .i64 n0, .int .i64 n1, .slice A2 l2.length c2, .int .i64 n3, .int .i64 n4, .int .i64 n5, .bool (n6 == 1), .slice A7 l7.length c7, .int .i64 n8, .slice A9 l9.length c9, .slice none 0 0, .int .i64 0, .int .i64 0, .slice none 0 0]) rfl) (p := ⟨gr, 0, none⟩) MR.out (.string s9))
     have BQn := a0_ (blk_far (blk_far BQ.out (p := ⟨gm, 9, none⟩) QM.out (.slice A9 l9.length c9)) (p := ⟨gr, 0, none⟩) QR.out (.string s9))
     have HN2 := a0_ (Kd.R_far (Kd.R_far HR2.out (p := ⟨gm, 9, none⟩) (fun k hk => hk.1) (.slice A9 l9.length c9)) (p := ⟨gr, 0, none⟩) (fun k hk => hk.2.1) (.string s9))
     have HN7 := a0_ (Kd.R_far (Kd.R_far HR7.out (p := ⟨gm, 9, none⟩) (fun k hk => hk.1) (.slice A9 l9.length c9)) (p := ⟨gr, 0, none⟩) (fun k hk => hk.2.1) (.string s9))
     have HN9 := a0_ (Kd.R_far (Kd.R_far HR9.out (p := ⟨gm, 9, none⟩) (fun k hk => hk.1) (.slice A9 l9.length c9)) (p := ⟨gr, 0, none⟩) (fun k hk => hk.2.1) (.string s9))
     clear cm9 fm9
     clear HI HB BM BQ LM LR LQ HR2 HR7 HR9
     have HI := HIn
     have HB := HBn
     have BM := BMn
     have BQ := BQn
     clear HIn HBn BMn BQn
     have HR2 := HN2
     clear HN2
     have HR7 := HN7
     clear HN7
     have HR9 := HN9
     clear HN9
     generalize (W9.setCell ⟨gm, 9, none⟩ (.slice A9 l9.length c9)).setCell ⟨gr, 0, none⟩ (.string s9) = V9 at HI HB BM BQ HR2 HR7 HR9 ⊢
     have LM := a0_ (blk_lt BM.out)
     have LR := a0_ (IsS101.lt HI.out)
     have LQ := a0_ (blk_lt BQ.out)
     go_wp2_with ((go_at_call 33; (with_reducible refine (msg_reader_number.calls k gr s9 false 1 nc sc false w _ HI.out HB.out AC.out).mono ?_); rintro e WC ⟨rfl, hi, hb, hk⟩; have hb2 := hb; have HIn := a0_ hi; have HBn := a0_ hb2; have BMn := a0_ (hk.blk BM.out MR.out (by simp)); have BQn := a0_ (hk.blk BQ.out QR.out (by simp)); have HN2 := a0_ (Kd.R_keep HR2.out hk (fun k h => h.2.1)); have HN7 := a0_ (Kd.R_keep HR7.out hk (fun k h => h.2.1)); have HN9 := a0_ (Kd.R_keep HR9.out hk (fun k h => h.2.1)); have LMn := a0_ (blk_lt BMn.out); have LRn := a0_ (IsS101.lt hi); have LQn := a0_ (blk_lt BQn.out); clear hi hb2 hk hb HI HB BM BQ LM LR LQ; clear HR2 HR7 HR9; have HI := HIn; have HB := HBn; have BM := BMn; have BQ := BQn; have LM := LMn; have LR := LRn; have LQ := LQn; clear HIn HBn BMn BQn LMn LRn LQn; have HR2 := HN2; clear HN2; have HR7 := HN7; clear HN7; have HR9 := HN9; clear HN9))
     have H : Aside0 (msg_szs k (nc.toNat - 0) [] sc = some (l10, s10)) := A10
     clear A10
     go_loopw [74] (fun v74 w' => ∃ (i : Nat) (sz : List Int) (sx : ByteArray) (v10 : Value), i ≤ nc.toNat ∧ v74 = .int .i64 i ∧ Aside0 (msg_szs k (nc.toNat - i) sz sx = some (l10, s10)) ∧ Aside0 (IsS101 w w' gr sx false) ∧ Aside0 (Below w.heap.size w w') ∧ Aside0 (w'.heap[gm]? = some (.cells #[.int .i64 n0, .int .i64 n1, .slice A2 l2.length c2, .int .i64 n3, .int .i64 n4, .int .i64 n5, .bool (n6 == 1), .slice A7 l7.length c7, .int .i64 n8, .slice A9 l9.length c9, v10, .int .i64 0, .int .i64 0, .slice none 0 0] 53 (0, 0))) ∧ Aside0 (w'.heap[gq]? = some (.cells #[.int .i64 0, .int .i64 0, .slice none 0 0, .int .i64 0, .int .i64 0, .int .i64 0, .bool false, .slice none 0 0, .int .i64 0, .slice none 0 0, .slice none 0 0, .int .i64 0, .int .i64 0, .slice none 0 0] 53 (0, 0))) ∧ Aside0 (Kd.R k160 160 w' W1.heap.size (fun k => k ≠ gm ∧ k ≠ gr ∧ k ≠ gq) (.slice A2 l2.length c2) l2) ∧ Aside0 (Kd.R k160 160 w' V6.heap.size (fun k => k ≠ gm ∧ k ≠ gr ∧ k ≠ gq) (.slice A7 l7.length c7) l7) ∧ Aside0 (Kd.R k166 166 w' V8.heap.size (fun k => k ≠ gm ∧ k ≠ gr ∧ k ≠ gq) (.slice A9 l9.length c9) l9) ∧ Aside0 (Kd.R (Kd.int .i64) 3 w' w.heap.size (fun k => k ≠ gm ∧ k ≠ gr ∧ k ≠ gq) v10 sz)) (fun v74 _ => nc.toNat - (intOf v74).toNat)
     case atStart => exact ⟨0, [], sc, .slice none 0 0, Nat.zero_le _, rfl, H, HI, HB, BM, BQ, HR2, HR7, HR9, ⟨Kd.R_nil _ _ _ _ _⟩⟩
     case round =>
      clear H HI HB BM BQ HR2 HR7 HR9 LM LR LQ
      obtain ⟨i, sz, sx, v10, hi, rfl, H, HI, HB, BM, BQ, HR2, HR7, HR9, HR10⟩ := hrel
      have LM := a0_ (blk_lt BM.out)
      have LR := a0_ (IsS101.lt HI.out)
      have LQ := a0_ (blk_lt BQ.out)
      obtain ⟨A10, c10, rfl, hc10, hC10⟩ := Kd.R_reads HR10.out
      clear hc10 hC10
      by_cases hlt : i < nc.toNat
      ·have c1 : decide ((i : Int) < nc) = true := decide_eq_true z2_
       have h := H.out
       rw [show nc.toNat - i = (nc.toNat - (i + 1)) + 1 from z2_, msg_szs] at h
       replace h := Option.bind_eq_some_iff.1 h
       obtain ⟨⟨a, s2_⟩, ha, h⟩ := h
       simp only at ha h
       by_cases hlim : sz.length < 4398046511104
       ·rw [if_pos hlim] at h
        have AS := a0_ (rdr_some ha)
        have H' := a0_ h
        have HL := a0_ hlim
        clear h H ha hlim
        go_upto_region 14 with (fail)
        refine st_ 8 (S := fun w' => w'.cell? ⟨gm, 10, none⟩ = some (.slice A10 sz.length c10)) (ds := [5, 7]) ((blk_cell BM.out 10).trans rfl) (fun hHeld => ?_)
        replace HI : Aside0 (IsS101 w wr.drew gr sx false) := ⟨IsS101.drew HI.out⟩
        replace HB := a0_ (below_drew1 HB.out)
        replace BM := a0_ (blk_drew BM.out)
        replace BQ := a0_ (blk_drew BQ.out)
        replace HR2 := a0_ (Kd.R_drew HR2.out)
        replace HR7 := a0_ (Kd.R_drew HR7.out)
        replace HR9 := a0_ (Kd.R_drew HR9.out)
        replace HR10 := a0_ (Kd.R_drew HR10.out)
        generalize wr.drew = V at HI HB BM BQ HR2 HR7 HR9 HR10 hHeld ⊢
        clear LM LR LQ
        have LM := a0_ (blk_lt BM.out)
        have LR := a0_ (IsS101.lt HI.out)
        have LQ := a0_ (blk_lt BQ.out)
        refine pu_ 0 (some 76) rfl rfl ?_
        refine pu_ 2 (some 78) rfl rfl ?_
        refine take_ (i := 1) (N := some 77) (v := ?_) (a' := ?_) #[true, true, true, false, false, false, false, false] rfl rfl z11_ (fun _ _ _ h => h) (Or.inl ⟨by rfl, ?_⟩) hHeld ?_ ?_
        rotate_left
        ·intro w' s0
         go_simp
         with_reducible rfl
        rotate_left
        ·exact put_
        refine on_ 3 (some 79) rfl rfl (fun K hK => ?_)
        refine goes_ Try.func33 z11_ rfl #[.pointer (some ⟨gr, 0, none⟩), .int .i64 1] (by rfl) rfl rfl z107_ ?_
        with_reducible refine (msg_reader_number.calls k gr sx false 1 a s2_ false w V HI.out HB.out AS.out).mono ?_
        rintro e W1x ⟨rfl, hi, hb, hk⟩
        have hb2 := hb
        have HIn := a0_ hi
        have HBn := a0_ hb2
        have BMn := a0_ (hk.blk BM.out MR.out (by simp))
        have BQn := a0_ (hk.blk BQ.out QR.out (by simp))
        have HN2 := a0_ (Kd.R_keep HR2.out hk (fun k h => h.2.1))
        have HN7 := a0_ (Kd.R_keep HR7.out hk (fun k h => h.2.1))
        have HN9 := a0_ (Kd.R_keep HR9.out hk (fun k h => h.2.1))
        have HN10 := a0_ (Kd.R_keep HR10.out hk (fun k h => h.2.1))
        have LMn := a0_ (blk_lt BMn.out)
        have LRn := a0_ (IsS101.lt hi)
        have LQn := a0_ (blk_lt BQn.out)
        clear hi hb2 hk hb HI HB BM BQ LM LR LQ
        clear HR2 HR7 HR9 HR10
        have HI := HIn
        have HB := HBn
        have BM := BMn
        have BQ := BQn
        have LM := LMn
        have LR := LRn
        have LQ := LQn
        clear HIn HBn BMn BQn LMn LRn LQn
        have HR2 := HN2
        clear HN2
        have HR7 := HN7
        clear HN7
        have HR9 := HN9
        clear HN9
        have HR10 := HN10
        clear HN10
        refine ⟨_, rfl, ?_⟩
        refine hK.out _ _ ((blk_cell BM.out 10).trans rfl) (fun hHeld => ?_)
        clear hK K
        refine norm_ (a' := ?_) ?_ ?_
        rotate_left
        ·show Act.put _ (some 79) _ = _
         exact put_
        refine on_ 4 (some 80) rfl rfl (fun K hK => ?_)
        refine value_ (w1 := ?_) (v := ?_) (by rfl) rfl ?_ ?_
        rotate_left 2
        ·go_simp
         constructor
         ·rfl
         ·rfl
        refine hK.out _ _ ((blk_cell (blk_alloc BM.out _) 10).trans rfl) (fun hHeld => ?_)
        clear hK K
        refine norm_ (a' := ?_) ?_ ?_
        rotate_left
        ·show Act.put _ (some 80) _ = _
         exact put_
        refine la_ 5 (some 81) rfl rfl (fun K hK => ?_)
        refine Kd.R_append_step (Kd.int .i64) (w0 := w) w.heap.size (by rfl) (.tmp 77) (.tmp 80) 48 3 (.int .i64 0) 8 rfl Try.underlying48 infoIn rfl z17_ z2_ (.slice A10 sz.length c10) sz a [.int .i64 a] (fun k => k ≠ gm ∧ k ≠ gr ∧ k ≠ gq) (fun _ => False) rfl rfl ?aP (fun _ hk => hk.elim) ?aF ?aO ?aB ?aS ?aL ?_
        (case aP => exact z72_)
        (case aB => exact HB.out)
        (case aF => exact (fun k hk => ⟨by have := LM.out; omega, by have := LR.out; omega, by have := LQ.out; omega⟩))
        (case aO => exact HR10.out)
        (case aS => exact HB.out.size)
        (case aL => have := HL.out; omega)
        intro vn' w2 ho hbb hg hat
        obtain ⟨A2n, c2n, rfl⟩ := Kd.R_slice ho
        rw [show (sz ++ [a]).length = sz.length + 1 from by simp] at ho
        have HIn := a0_ (IsS101.grown HI.out hg (fun e => (HR10.out.1 gr e.symm).2.1 rfl))
        have BMn := a0_ (blk_grown BM.out hg (fun e => (HR10.out.1 gm e.symm).1 rfl))
        have BQn := a0_ (blk_grown BQ.out hg (fun e => (HR10.out.1 gq e.symm).2.2 rfl))
        have HN2 := a0_ (row_grown HR2.out hg HR10.out z17_)
        have HN7 := a0_ (row_grown HR7.out hg HR10.out z17_)
        have HN9 := a0_ (row_grown HR9.out hg HR10.out z17_)
        have HRn := a0_ ho
        have HBn := a0_ hbb
        clear ho hg hat hbb HI HB BM BQ HR2 HR7 HR9 HR10
        have HI := HIn
        have HB := HBn
        have BM := BMn
        have BQ := BQn
        have HR2 := HN2
        have HR7 := HN7
        have HR9 := HN9
        have HR10 := HRn
        clear HIn HBn BMn BQn HN2 HN7 HN9 HRn
        refine hK.out _ _ ?_
        clear hK K
        refine norm_ (a' := ?_) ?_ ?_
        rotate_left
        ·show Act.put _ (some 81) _ = _
         exact put_
        refine pu_ 6 (some 82) rfl rfl ?_
        refine la_ 7 (none) rfl rfl (fun K hK => ?_)
        have cm10 := blk_cell BM.out 10
        have fm10 := blk_frozen BM.out 10
        refine skip_ (w1 := ?_) (by rfl) rfl ?_ ?_
        rotate_left
        ·go_simp
         rfl
        refine hK.out _ _ ?_
        clear hK K
        refine done_ z11_ ?_
        have HIn := a0_ (IsS101.far HI.out (p := ⟨gm, 10, none⟩) RM.out (.slice A2n (sz.length + 1) c2n))
        have HBn := a0_ (below_set (v := .slice A2n (sz.length + 1) c2n) (j := 10) HB.out GM.out)
        have BMn := a0_ (blk_put BM.out 10 (.slice A2n (sz.length + 1) c2n) (cs' := #[.int .i64 n0, .int .i64 n1, .slice A2 l2.length c2, .int .i64 n3, .int .i64 n4, .int .i64 n5, .bool (n6 == 1), .slice A7 l7.length c7, .int .i64 n8, .slice A9 l9.length c9, .slice A2n (sz.length + 1) c2n, .int .i64 0, .int .i64 0, .slice none 0 0]) rfl)
        have BQn := a0_ (blk_far BQ.out (p := ⟨gm, 10, none⟩) QM.out (.slice A2n (sz.length + 1) c2n))
        have HN2 := a0_ (Kd.R_far HR2.out (p := ⟨gm, 10, none⟩) (fun k hk => hk.1) (.slice A2n (sz.length + 1) c2n))
        have HN7 := a0_ (Kd.R_far HR7.out (p := ⟨gm, 10, none⟩) (fun k hk => hk.1) (.slice A2n (sz.length + 1) c2n))
        have HN9 := a0_ (Kd.R_far HR9.out (p := ⟨gm, 10, none⟩) (fun k hk => hk.1) (.slice A2n (sz.length + 1) c2n))
        have HN10 := a0_ (Kd.R_far HR10.out (p := ⟨gm, 10, none⟩) (fun k hk => hk.1) (.slice A2n (sz.length + 1) c2n))
        clear HI HB BM BQ LM LR LQ HR2 HR7 HR9 HR10
        have HI := HIn
        have HB := HBn
        have BM := BMn
        have BQ := BQn
        clear HIn HBn BMn BQn
        have HR2 := HN2
        clear HN2
        have HR7 := HN7
        clear HN7
        have HR9 := HN9
        clear HN9
        have HR10 := HN10
        clear HN10
        generalize w2.setCell ⟨gm, 10, none⟩ (.slice A2n (sz.length + 1) c2n) = V10 at HI HB BM BQ HR2 HR7 HR9 HR10 ⊢
        have LM := a0_ (blk_lt BM.out)
        have LR := a0_ (IsS101.lt HI.out)
        have LQ := a0_ (blk_lt BQ.out)
        go_wp2
        go_roundw
        case measure => simp [intOf]; omega
        case rel => exact ⟨i + 1, _, s2_, _, z2_, z30_, H', HI, HB, BM, BQ, HR2, HR7, HR9, HR10⟩
       ·rw [if_neg hlim] at h; cases h
      ·obtain rfl : i = nc.toNat := by omega
       have c1 : decide (((nc.toNat : Nat) : Int) < nc) = false := decide_eq_false z2_
       have h := H.out
       rw [Nat.sub_self, msg_szs] at h
       simp only [Option.some.injEq, Prod.mk.injEq] at h
       obtain ⟨rfl, rfl⟩ := h
       clear H
       go_upto_region 17 with (first | (go_at_call 33; (with_reducible refine (msg_reader_number.calls k gr sx false 8 n11 s11 false w _ HI.out HB.out A11.out).mono ?_); rintro e W11 ⟨rfl, hi, hb, hk⟩; have hb2 := hb; have HIn := a0_ hi; have HBn := a0_ hb2; have BMn := a0_ (hk.blk BM.out MR.out (by simp)); have BQn := a0_ (hk.blk BQ.out QR.out (by simp)); have HN2 := a0_ (Kd.R_keep HR2.out hk (fun k h => h.2.1)); have HN7 := a0_ (Kd.R_keep HR7.out hk (fun k h => h.2.1)); have HN9 := a0_ (Kd.R_keep HR9.out hk (fun k h => h.2.1)); have HN10 := a0_ (Kd.R_keep HR10.out hk (fun k h => h.2.1)); have LMn := a0_ (blk_lt BMn.out); have LRn := a0_ (IsS101.lt hi); have LQn := a0_ (blk_lt BQn.out); clear hi hb2 hk hb HI HB BM BQ LM LR LQ; clear HR2 HR7 HR9 HR10; have HI := HIn; have HB := HBn; have BM := BMn; have BQ := BQn; have LM := LMn; have LR := LRn; have LQ := LQn; clear HIn HBn BMn BQn LMn LRn LQn; have HR2 := HN2; clear HN2; have HR7 := HN7; clear HN7; have HR9 := HN9; clear HN9; have HR10 := HN10; clear HN10) | (go_at_call 33; (with_reducible refine (msg_reader_number.calls k gr s11 false 8 n12 s12 false w _ HI.out HB.out A12.out).mono ?_); rintro e W12 ⟨rfl, hi, hb, hk⟩; have hb2 := hb; have HIn := a0_ hi; have HBn := a0_ hb2; have BMn := a0_ (hk.blk BM.out MR.out (by simp)); have BQn := a0_ (hk.blk BQ.out QR.out (by simp)); have HN2 := a0_ (Kd.R_keep HR2.out hk (fun k h => h.2.1)); have HN7 := a0_ (Kd.R_keep HR7.out hk (fun k h => h.2.1)); have HN9 := a0_ (Kd.R_keep HR9.out hk (fun k h => h.2.1)); have HN10 := a0_ (Kd.R_keep HR10.out hk (fun k h => h.2.1)); have LMn := a0_ (blk_lt BMn.out); have LRn := a0_ (IsS101.lt hi); have LQn := a0_ (blk_lt BQn.out); clear hi hb2 hk hb HI HB BM BQ LM LR LQ; clear HR2 HR7 HR9 HR10; have HI := HIn; have HB := HBn; have BM := BMn; have BQ := BQn; have LM := LMn; have LR := LRn; have LQ := LQn; clear HIn HBn BMn BQn LMn LRn LQn; have HR2 := HN2; clear HN2; have HR7 := HN7; clear HN7; have HR9 := HN9; clear HN9; have HR10 := HN10; clear HN10) | (go_at_call 36; (with_reducible refine (msg_reader_writes.good k gr s12 l13 (⟨#[]⟩ : ByteArray) w _ HI.out HB.out A13.out).mono ?_); rintro e W13 ⟨v13, rfl, hr, hi, hb, hk⟩; obtain ⟨A13, c13, rfl, hc13, hC13⟩ := Kd.R_reads hr; clear hc13 hC13; have hb2 := hb; have HRn := a0_ (Kd.R_mono (Kd.R_bound hr) (fun k hk_ => (⟨z170_, z171_, z172_⟩ : k ≠ gm ∧ k ≠ gr ∧ k ≠ gq))); have HIn := a0_ hi; have HBn := a0_ hb2; have BMn := a0_ (hk.blk BM.out MR.out (by simp)); have BQn := a0_ (hk.blk BQ.out QR.out (by simp)); have HN2 := a0_ (Kd.R_keep HR2.out hk (fun k h => h.2.1)); have HN7 := a0_ (Kd.R_keep HR7.out hk (fun k h => h.2.1)); have HN9 := a0_ (Kd.R_keep HR9.out hk (fun k h => h.2.1)); have HN10 := a0_ (Kd.R_keep HR10.out hk (fun k h => h.2.1)); have LMn := a0_ (blk_lt BMn.out); have LRn := a0_ (IsS101.lt hi); have LQn := a0_ (blk_lt BQn.out); clear hi hb2 hk hb hr HI HB BM BQ LM LR LQ; clear HR2 HR7 HR9 HR10; have HI := HIn; have HB := HBn; have BM := BMn; have BQ := BQn; have LM := LMn; have LR := LRn; have LQ := LQn; clear HIn HBn BMn BQn LMn LRn LQn; have HR2 := HN2; clear HN2; have HR7 := HN7; clear HN7; have HR9 := HN9; clear HN9; have HR10 := HN10; clear HN10; have HR13 := HRn; clear HRn; have cm11 := blk_cell BM.out 11; have cm12 := blk_cell BM.out 12; have cm13 := blk_cell BM.out 13; have fm11 := blk_frozen BM.out 11; have fm12 := blk_frozen BM.out 12; have fm13 := blk_frozen BM.out 13))
       have HIn := a0_ (IsS101.far (IsS101.far (IsS101.far HI.out (p := ⟨gm, 11, none⟩) RM.out (.int .i64 n11)) (p := ⟨gm, 12, none⟩) RM.out (.int .i64 n12)) (p := ⟨gm, 13, none⟩) RM.out (.slice A13 l13.length c13))
       have HBn := a0_ (below_set (v := .slice A13 l13.length c13) (j := 13) (below_set (v := .int .i64 n12) (j := 12) (below_set (v := .int .i64 n11) (j := 11) HB.out GM.out) GM.out) GM.out)
       have BMn := a0_ (blk_put (blk_put (blk_put BM.out 11 (.int .i64 n11) (cs' := #[.int .i64 n0, .int .i64 n1, .slice A2 l2.length c2, .int .i64 n3, .int .i64 n4, .int .i64 n5, .bool (n6 == 1), .slice A7 l7.length c7, .int .i64 n8, .slice A9 l9.length c9, .slice A10 sz.length c10, .int .i64 n11, .int .i64 0, .slice none 0 0]) rfl) 12 (.int .i64 n12) (cs' := #[.int .i64 n0, .int .i64 n1, .slice A2 l2.length c2, .int .i64 n3, .int .i64 n4, .int .i64 n5, .bool (n6 == 1), .slice A7 l7.length c7, .int .i64 n8, .slice A9 l9.length c9, .slice A10 sz.length c10, .int .i64 n11, .int .i64 n12, .slice none 0 0]) rfl) 13 (.slice A13 l13.length c13) (cs' := #[.int .i64 n0, .int .i64 n1, .slice A2 l2.length c2, .int .i64 n3, .int .i64 n4, .int .i64 n5, .bool (n6 == 1), .slice A7 l7.length c7, .int .i64 n8, .slice A9 l9.length c9, .slice A10 sz.length c10, .int .i64 n11, .int .i64 n12, .slice A13 l13.length c13]) rfl)
       have BQn := a0_ (blk_far (blk_far (blk_far BQ.out (p := ⟨gm, 11, none⟩) QM.out (.int .i64 n11)) (p := ⟨gm, 12, none⟩) QM.out (.int .i64 n12)) (p := ⟨gm, 13, none⟩) QM.out (.slice A13 l13.length c13))
       have HN2 := a0_ (Kd.R_far (Kd.R_far (Kd.R_far HR2.out (p := ⟨gm, 11, none⟩) (fun k hk => hk.1) (.int .i64 n11)) (p := ⟨gm, 12, none⟩) (fun k hk => hk.1) (.int .i64 n12)) (p := ⟨gm, 13, none⟩) (fun k hk => hk.1) (.slice A13 l13.length c13))
       have HN7 := a0_ (Kd.R_far (Kd.R_far (Kd.R_far HR7.out (p := ⟨gm, 11, none⟩) (fun k hk => hk.1) (.int .i64 n11)) (p := ⟨gm, 12, none⟩) (fun k hk => hk.1) (.int .i64 n12)) (p := ⟨gm, 13, none⟩) (fun k hk => hk.1) (.slice A13 l13.length c13))
       have HN9 := a0_ (Kd.R_far (Kd.R_far (Kd.R_far HR9.out (p := ⟨gm, 11, none⟩) (fun k hk => hk.1) (.int .i64 n11)) (p := ⟨gm, 12, none⟩) (fun k hk => hk.1) (.int .i64 n12)) (p := ⟨gm, 13, none⟩) (fun k hk => hk.1) (.slice A13 l13.length c13))
       have HN10 := a0_ (Kd.R_far (Kd.R_far (Kd.R_far HR10.out (p := ⟨gm, 11, none⟩) (fun k hk => hk.1) (.int .i64 n11)) (p := ⟨gm, 12, none⟩) (fun k hk => hk.1) (.int .i64 n12)) (p := ⟨gm, 13, none⟩) (fun k hk => hk.1) (.slice A13 l13.length c13))
       have HN13 := a0_ (Kd.R_far (Kd.R_far (Kd.R_far HR13.out (p := ⟨gm, 11, none⟩) (fun k hk => hk.1) (.int .i64 n11)) (p := ⟨gm, 12, none⟩) (fun k hk => hk.1) (.int .i64 n12)) (p := ⟨gm, 13, none⟩) (fun k hk => hk.1) (.slice A13 l13.length c13))
       clear cm11 fm11 cm12 fm12 cm13 fm13
       clear HI HB BM BQ LM LR LQ HR2 HR7 HR9 HR10 HR13
       have HI := HIn
       have HB := HBn
       have BM := BMn
       have BQ := BQn
       clear HIn HBn BMn BQn
       have HR2 := HN2
       clear HN2
       have HR7 := HN7
       clear HN7
       have HR9 := HN9
       clear HN9
       have HR10 := HN10
       clear HN10
       have HR13 := HN13
       clear HN13
       generalize ((W13.setCell ⟨gm, 11, none⟩ (.int .i64 n11)).setCell ⟨gm, 12, none⟩ (.int .i64 n12)).setCell ⟨gm, 13, none⟩ (.slice A13 l13.length c13) = V13 at HI HB BM BQ HR2 HR7 HR9 HR10 HR13 ⊢
       have LM := a0_ (blk_lt BM.out)
       have LR := a0_ (IsS101.lt HI.out)
       have LQ := a0_ (blk_lt BQ.out)
       have x0 := cellS101_0 HI.out.1
       have x1 := cellS101_1 HI.out.1
       obtain ⟨cm0, cm1, cm2, cm3, cm4, cm5, cm6, cm7, cm8, cm9, cm10, cm11, cm12, cm13⟩ := bc14_ BM.out
       go_upto_region 19 with ((go_at_call 37; (with_reducible refine (msg_Right.calls k n0 n1 A2 c2 l2 n3 n4 n5 (n6 == 1) A7 c7 l7 n8 A9 c9 l9 A10 c10 sz n11 n12 A13 c13 l13 true _ (Kd.R_reads' HR2.out).2.2 (Kd.R_reads' HR2.out).2.1 (Kd.R_reads' HR7.out).2.2 (Kd.R_reads' HR7.out).2.1 (Kd.R_reads' HR9.out).2.2 (Kd.R_reads' HR9.out).2.1 (Kd.R_reads' HR10.out).2.2 (Kd.R_reads' HR10.out).2.1 (Kd.R_reads' HR13.out).2.2 (Kd.R_reads' HR13.out).2.1 AR.out).mono ?_); rintro e W14 ⟨rfl, hb⟩; clear x0 x1 cm0 cm1 cm2 cm3 cm4 cm5 cm6 cm7 cm8 cm9 cm10 cm11 cm12 cm13; have hk := KeepBut.of_below hb gr none; have hi := IsS101.below HI.out hb; have hb2 := below_step HB.out hb; have HIn := a0_ hi; have HBn := a0_ hb2; have BMn := a0_ (hk.blk BM.out MR.out (by simp)); have BQn := a0_ (hk.blk BQ.out QR.out (by simp)); have HN2 := a0_ (Kd.R_keep HR2.out hk (fun k h => h.2.1)); have HN7 := a0_ (Kd.R_keep HR7.out hk (fun k h => h.2.1)); have HN9 := a0_ (Kd.R_keep HR9.out hk (fun k h => h.2.1)); have HN10 := a0_ (Kd.R_keep HR10.out hk (fun k h => h.2.1)); have HN13 := a0_ (Kd.R_keep HR13.out hk (fun k h => h.2.1)); have LMn := a0_ (blk_lt BMn.out); have LRn := a0_ (IsS101.lt hi); have LQn := a0_ (blk_lt BQn.out); clear hi hb2 hk hb HI HB BM BQ LM LR LQ; clear HR2 HR7 HR9 HR10 HR13; have HI := HIn; have HB := HBn; have BM := BMn; have BQ := BQn; have LM := LMn; have LR := LRn; have LQ := LQn; clear HIn HBn BMn BQn LMn LRn LQn; have HR2 := HN2; clear HN2; have HR7 := HN7; clear HN7; have HR9 := HN9; clear HN9; have HR10 := HN10; clear HN10; have HR13 := HN13; clear HN13))
       obtain ⟨cm0, cm1, cm2, cm3, cm4, cm5, cm6, cm7, cm8, cm9, cm10, cm11, cm12, cm13⟩ := bc14_ BM.out
       obtain ⟨cq0, cq1, cq2, cq3, cq4, cq5, cq6, cq7, cq8, cq9, cq10, cq11, cq12, cq13⟩ := bc14_ BQ.out
       obtain ⟨fq0, fq1, fq2, fq3, fq4, fq5, fq6, fq7, fq8, fq9, fq10, fq11, fq12, fq13⟩ := bf14_ BQ.out
       go_wp2
       have HBn := a0_ (below_set (v := .slice A13 l13.length c13) (j := 13) (below_set (v := .int .i64 n12) (j := 12) (below_set (v := .int .i64 n11) (j := 11) (below_set (v := .slice A10 sz.length c10) (j := 10) (below_set (v := .slice A9 l9.length c9) (j := 9) (below_set (v := .int .i64 n8) (j := 8) (below_set (v := .slice A7 l7.length c7) (j := 7) (below_set (v := .bool (n6 == 1)) (j := 6) (below_set (v := .int .i64 n5) (j := 5) (below_set (v := .int .i64 n4) (j := 4) (below_set (v := .int .i64 n3) (j := 3) (below_set (v := .slice A2 l2.length c2) (j := 2) (below_set (v := .int .i64 n1) (j := 1) (below_set (v := .int .i64 n0) (j := 0) HB.out GQ.out) GQ.out) GQ.out) GQ.out) GQ.out) GQ.out) GQ.out) GQ.out) GQ.out) GQ.out) GQ.out) GQ.out) GQ.out) GQ.out)
       have BQn := a0_ (blk_put (blk_put (blk_put (blk_put (blk_put (blk_put (blk_put (blk_put (blk_put (blk_put (blk_put (blk_put (blk_put (blk_put BQ.out 0 (.int .i64 n0) (cs' := #[.int .i64 n0, .int .i64 0, .slice none 0 0, .int .i64 0, .int .i64 0, .int .i64 0, .bool false, .slice none 0 0, .int .i64 0, .slice none 0 0, .slice none 0 0, .int .i64 0, .int .i64 0, .slice none 0 0]) rfl) 1 (.int .i64 n1) (cs' := #[.int .i64 n0, .int .i64 n1, .slice none 0 0, .int .i64 0, .int .i64 0, .int .i64 0, .bool false, .slice none 0 0, .int .i64 0, .slice none 0 0, .slice none 0 0, .int .i64 0, .int .i64 0, .slice none 0 0]) rfl) 2 (.slice A2 l2.length c2) (cs' := #[.int .i64 n0, .int .i64 n1, .slice A2 l2.length c2, .int .i64 0, .int .i64 0, .int .i64 0, .bool false, .slice none 0 0, .int .i64 0, .slice none 0 0, .slice none 0 0, .int .i64 0, .int .i64 0, .slice none 0 0]) rfl) 3 (.int .i64 n3) (cs' := #[.int .i64 n0, .int .i64 n1, .slice A2 l2.length c2, .int .i64 n3, .int .i64 0, .int .i64 0, .bool false, .slice none 0 0, .int .i64 0, .slice none 0 0, .slice none 0 0, .int .i64 0, .int .i64 0, .slice none 0 0]) rfl) 4 (.int .i64 n4) (cs' := #[.int .i64 n0, .int .i64 n1, .slice A2 l2.length c2, .int .i64 n3, .int .i64 n4, .int .i64 0, .bool false, .slice none 0 0, .int .i64 0, .slice none 0 0, .slice none 0 0, .int .i64 0, .int .i64 0, .slice none 0 0]) rfl) 5 (.int .i64 n5) (cs' := #[.int .i64 n0, .int .i64 n1, .slice A2 l2.length c2, .int .i64 n3, .int .i64 n4, .int .i64 n5, .bool false, .slice none 0 0, .int .i64 0, .slice none 0 0, .slice none 0 0, .int .i64 0, .int .i64 0, .slice none 0 0]) rfl) 6 (.bool (n6 == 1)) (cs' := #[.int .i64 n0, .int .i64 n1, .slice A2 l2.length c2, .int .i64 n3, .int .i64 n4, .int .i64 n5, .bool (n6 == 1), .slice none 0 0, .int .i64 0, .slice none 0 0, .slice none 0 0, .int .i64 0, .int .i64 0, .slice none 0 0]) rfl) 7 (.slice A7 l7.length c7) (cs' := #[.int .i64 n0, .int .i64 n1, .slice A2 l2.length c2, .int .i64 n3, .int .i64 n4, .int .i64 n5, .bool (n6 == 1), .slice A7 l7.length c7, .int .i64 0, .slice none 0 0, .slice none 0 0, .int .i64 0, .int .i64 0, .slice none 0 0]) rfl) 8 (.int .i64 n8) (cs' := #[.int .i64 n0, .int .i64 n1, .slice A2 l2.length c2, .int .i64 n3, .int .i64 n4, .int .i64 n5, .bool (n6 == 1), .slice A7 l7.length c7, .int .i64 n8, .slice none 0 0, .slice none 0 0, .int .i64 0, .int .i64 0, .slice none 0 0]) rfl) 9 (.slice A9 l9.length c9) (cs' := #[.int .i64 n0, .int .i64 n1, .slice A2 l2.length c2, .int .i64 n3, .int .i64 n4, .int .i64 n5, .bool (n6 == 1), .slice A7 l7.length c7, .int .i64 n8, .slice A9 l9.length c9, .slice none 0 0, .int .i64 0, .int .i64 0, .slice none 0 0]) rfl) 10 (.slice A10 sz.length c10) (cs' := #[.int .i64 n0, .int .i64 n1, .slice A2 l2.length c2, .int .i64 n3, .int .i64 n4, .int .i64 n5, .bool (n6 == 1), .slice A7 l7.length c7, .int .i64 n8, .slice A9 l9.length c9, .slice A10 sz.length c10, .int .i64 0, .int .i64 0, .slice none 0 0]) rfl) 11 (.int .i64 n11) (cs' := #[.int .i64 n0, .int .i64 n1, .slice A2 l2.length c2, .int .i64 n3, .int .i64 n4, .int .i64 n5, .bool (n6 == 1), .slice A7 l7.length c7, .int .i64 n8, .slice A9 l9.length c9, .slice A10 sz.length c10, .int .i64 n11, .int .i64 0, .slice none 0 0]) rfl) 12 (.int .i64 n12) (cs' := #[.int .i64 n0, .int .i64 n1, .slice A2 l2.length c2, .int .i64 n3, .int .i64 n4, .int .i64 n5, .bool (n6 == 1), .slice A7 l7.length c7, .int .i64 n8, .slice A9 l9.length c9, .slice A10 sz.length c10, .int .i64 n11, .int .i64 n12, .slice none 0 0]) rfl) 13 (.slice A13 l13.length c13) (cs' := #[.int .i64 n0, .int .i64 n1, .slice A2 l2.length c2, .int .i64 n3, .int .i64 n4, .int .i64 n5, .bool (n6 == 1), .slice A7 l7.length c7, .int .i64 n8, .slice A9 l9.length c9, .slice A10 sz.length c10, .int .i64 n11, .int .i64 n12, .slice A13 l13.length c13]) rfl)
       have HN2 := a0_ (Kd.R_far (Kd.R_far (Kd.R_far (Kd.R_far (Kd.R_far (Kd.R_far (Kd.R_far (Kd.R_far (Kd.R_far (Kd.R_far (Kd.R_far (Kd.R_far (Kd.R_far (Kd.R_far HR2.out (p := ⟨gq, 0, none⟩) (fun k hk => hk.2.2) (.int .i64 n0)) (p := ⟨gq, 1, none⟩) (fun k hk => hk.2.2) (.int .i64 n1)) (p := ⟨gq, 2, none⟩) (fun k hk => hk.2.2) (.slice A2 l2.length c2)) (p := ⟨gq, 3, none⟩) (fun k hk => hk.2.2) (.int .i64 n3)) (p := ⟨gq, 4, none⟩) (fun k hk => hk.2.2) (.int .i64 n4)) (p := ⟨gq, 5, none⟩) (fun k hk => hk.2.2) (.int .i64 n5)) (p := ⟨gq, 6, none⟩) (fun k hk => hk.2.2) (.bool (n6 == 1))) (p := ⟨gq, 7, none⟩) (fun k hk => hk.2.2) (.slice A7 l7.length c7)) (p := ⟨gq, 8, none⟩) (fun k hk => hk.2.2) (.int .i64 n8)) (p := ⟨gq, 9, none⟩) (fun k hk => hk.2.2) (.slice A9 l9.length c9)) (p := ⟨gq, 10, none⟩) (fun k hk => hk.2.2) (.slice A10 sz.length c10)) (p := ⟨gq, 11, none⟩) (fun k hk => hk.2.2) (.int .i64 n11)) (p := ⟨gq, 12, none⟩) (fun k hk => hk.2.2) (.int .i64 n12)) (p := ⟨gq, 13, none⟩) (fun k hk => hk.2.2) (.slice A13 l13.length c13))
       have HN7 := a0_ (Kd.R_far (Kd.R_far (Kd.R_far (Kd.R_far (Kd.R_far (Kd.R_far (Kd.R_far (Kd.R_far (Kd.R_far (Kd.R_far (Kd.R_far (Kd.R_far (Kd.R_far (Kd.R_far HR7.out (p := ⟨gq, 0, none⟩) (fun k hk => hk.2.2) (.int .i64 n0)) (p := ⟨gq, 1, none⟩) (fun k hk => hk.2.2) (.int .i64 n1)) (p := ⟨gq, 2, none⟩) (fun k hk => hk.2.2) (.slice A2 l2.length c2)) (p := ⟨gq, 3, none⟩) (fun k hk => hk.2.2) (.int .i64 n3)) (p := ⟨gq, 4, none⟩) (fun k hk => hk.2.2) (.int .i64 n4)) (p := ⟨gq, 5, none⟩) (fun k hk => hk.2.2) (.int .i64 n5)) (p := ⟨gq, 6, none⟩) (fun k hk => hk.2.2) (.bool (n6 == 1))) (p := ⟨gq, 7, none⟩) (fun k hk => hk.2.2) (.slice A7 l7.length c7)) (p := ⟨gq, 8, none⟩) (fun k hk => hk.2.2) (.int .i64 n8)) (p := ⟨gq, 9, none⟩) (fun k hk => hk.2.2) (.slice A9 l9.length c9)) (p := ⟨gq, 10, none⟩) (fun k hk => hk.2.2) (.slice A10 sz.length c10)) (p := ⟨gq, 11, none⟩) (fun k hk => hk.2.2) (.int .i64 n11)) (p := ⟨gq, 12, none⟩) (fun k hk => hk.2.2) (.int .i64 n12)) (p := ⟨gq, 13, none⟩) (fun k hk => hk.2.2) (.slice A13 l13.length c13))
       have HN9 := a0_ (Kd.R_far (Kd.R_far (Kd.R_far (Kd.R_far (Kd.R_far (Kd.R_far (Kd.R_far (Kd.R_far (Kd.R_far (Kd.R_far (Kd.R_far (Kd.R_far (Kd.R_far (Kd.R_far HR9.out (p := ⟨gq, 0, none⟩) (fun k hk => hk.2.2) (.int .i64 n0)) (p := ⟨gq, 1, none⟩) (fun k hk => hk.2.2) (.int .i64 n1)) (p := ⟨gq, 2, none⟩) (fun k hk => hk.2.2) (.slice A2 l2.length c2)) (p := ⟨gq, 3, none⟩) (fun k hk => hk.2.2) (.int .i64 n3)) (p := ⟨gq, 4, none⟩) (fun k hk => hk.2.2) (.int .i64 n4)) (p := ⟨gq, 5, none⟩) (fun k hk => hk.2.2) (.int .i64 n5)) (p := ⟨gq, 6, none⟩) (fun k hk => hk.2.2) (.bool (n6 == 1))) (p := ⟨gq, 7, none⟩) (fun k hk => hk.2.2) (.slice A7 l7.length c7)) (p := ⟨gq, 8, none⟩) (fun k hk => hk.2.2) (.int .i64 n8)) (p := ⟨gq, 9, none⟩) (fun k hk => hk.2.2) (.slice A9 l9.length c9)) (p := ⟨gq, 10, none⟩) (fun k hk => hk.2.2) (.slice A10 sz.length c10)) (p := ⟨gq, 11, none⟩) (fun k hk => hk.2.2) (.int .i64 n11)) (p := ⟨gq, 12, none⟩) (fun k hk => hk.2.2) (.int .i64 n12)) (p := ⟨gq, 13, none⟩) (fun k hk => hk.2.2) (.slice A13 l13.length c13))
       have HN10 := a0_ (Kd.R_far (Kd.R_far (Kd.R_far (Kd.R_far (Kd.R_far (Kd.R_far (Kd.R_far (Kd.R_far (Kd.R_far (Kd.R_far (Kd.R_far (Kd.R_far (Kd.R_far (Kd.R_far HR10.out (p := ⟨gq, 0, none⟩) (fun k hk => hk.2.2) (.int .i64 n0)) (p := ⟨gq, 1, none⟩) (fun k hk => hk.2.2) (.int .i64 n1)) (p := ⟨gq, 2, none⟩) (fun k hk => hk.2.2) (.slice A2 l2.length c2)) (p := ⟨gq, 3, none⟩) (fun k hk => hk.2.2) (.int .i64 n3)) (p := ⟨gq, 4, none⟩) (fun k hk => hk.2.2) (.int .i64 n4)) (p := ⟨gq, 5, none⟩) (fun k hk => hk.2.2) (.int .i64 n5)) (p := ⟨gq, 6, none⟩) (fun k hk => hk.2.2) (.bool (n6 == 1))) (p := ⟨gq, 7, none⟩) (fun k hk => hk.2.2) (.slice A7 l7.length c7)) (p := ⟨gq, 8, none⟩) (fun k hk => hk.2.2) (.int .i64 n8)) (p := ⟨gq, 9, none⟩) (fun k hk => hk.2.2) (.slice A9 l9.length c9)) (p := ⟨gq, 10, none⟩) (fun k hk => hk.2.2) (.slice A10 sz.length c10)) (p := ⟨gq, 11, none⟩) (fun k hk => hk.2.2) (.int .i64 n11)) (p := ⟨gq, 12, none⟩) (fun k hk => hk.2.2) (.int .i64 n12)) (p := ⟨gq, 13, none⟩) (fun k hk => hk.2.2) (.slice A13 l13.length c13))
       have HN13 := a0_ (Kd.R_far (Kd.R_far (Kd.R_far (Kd.R_far (Kd.R_far (Kd.R_far (Kd.R_far (Kd.R_far (Kd.R_far (Kd.R_far (Kd.R_far (Kd.R_far (Kd.R_far (Kd.R_far HR13.out (p := ⟨gq, 0, none⟩) (fun k hk => hk.2.2) (.int .i64 n0)) (p := ⟨gq, 1, none⟩) (fun k hk => hk.2.2) (.int .i64 n1)) (p := ⟨gq, 2, none⟩) (fun k hk => hk.2.2) (.slice A2 l2.length c2)) (p := ⟨gq, 3, none⟩) (fun k hk => hk.2.2) (.int .i64 n3)) (p := ⟨gq, 4, none⟩) (fun k hk => hk.2.2) (.int .i64 n4)) (p := ⟨gq, 5, none⟩) (fun k hk => hk.2.2) (.int .i64 n5)) (p := ⟨gq, 6, none⟩) (fun k hk => hk.2.2) (.bool (n6 == 1))) (p := ⟨gq, 7, none⟩) (fun k hk => hk.2.2) (.slice A7 l7.length c7)) (p := ⟨gq, 8, none⟩) (fun k hk => hk.2.2) (.int .i64 n8)) (p := ⟨gq, 9, none⟩) (fun k hk => hk.2.2) (.slice A9 l9.length c9)) (p := ⟨gq, 10, none⟩) (fun k hk => hk.2.2) (.slice A10 sz.length c10)) (p := ⟨gq, 11, none⟩) (fun k hk => hk.2.2) (.int .i64 n11)) (p := ⟨gq, 12, none⟩) (fun k hk => hk.2.2) (.int .i64 n12)) (p := ⟨gq, 13, none⟩) (fun k hk => hk.2.2) (.slice A13 l13.length c13))
       clear cm0 cq0 fq0 cm1 cq1 fq1 cm2 cq2 fq2 cm3 cq3 fq3 cm4 cq4 fq4 cm5 cq5 fq5 cm6 cq6 fq6 cm7 cq7 fq7 cm8 cq8 fq8 cm9 cq9 fq9 cm10 cq10 fq10 cm11 cq11 fq11 cm12 cq12 fq12 cm13 cq13 fq13
       generalize (((((((((((((W14.setCell ⟨gq, 0, none⟩ (.int .i64 n0)).setCell ⟨gq, 1, none⟩ (.int .i64 n1)).setCell ⟨gq, 2, none⟩ (.slice A2 l2.length c2)).setCell ⟨gq, 3, none⟩ (.int .i64 n3)).setCell ⟨gq, 4, none⟩ (.int .i64 n4)).setCell ⟨gq, 5, none⟩ (.int .i64 n5)).setCell ⟨gq, 6, none⟩ (.bool (n6 == 1))).setCell ⟨gq, 7, none⟩ (.slice A7 l7.length c7)).setCell ⟨gq, 8, none⟩ (.int .i64 n8)).setCell ⟨gq, 9, none⟩ (.slice A9 l9.length c9)).setCell ⟨gq, 10, none⟩ (.slice A10 sz.length c10)).setCell ⟨gq, 11, none⟩ (.int .i64 n11)).setCell ⟨gq, 12, none⟩ (.int .i64 n12)).setCell ⟨gq, 13, none⟩ (.slice A13 l13.length c13) = WZ at HBn BQn HN2 HN7 HN9 HN10 HN13 ⊢
       refine bodyPost_ret (results_ct rfl _ _ gq 53 #[.int .i64 n0, .int .i64 n1, .slice A2 l2.length c2, .int .i64 n3, .int .i64 n4, .int .i64 n5, .bool (n6 == 1), .slice A7 l7.length c7, .int .i64 n8, .slice A9 l9.length c9, .slice A10 sz.length c10, .int .i64 n11, .int .i64 n12, .slice A13 l13.length c13] (0, 0) _ rfl BQn.out Try.underlying53 rfl z11_) rfl ?_
       exact ⟨[.int .i64 n0, .int .i64 n1, .slice A2 l2.length c2, .int .i64 n3, .int .i64 n4, .int .i64 n5, .bool (n6 == 1), .slice A7 l7.length c7, .int .i64 n8, .slice A9 l9.length c9, .slice A10 sz.length c10, .int .i64 n11, .int .i64 n12, .slice A13 l13.length c13], rfl, k53_mk WZ ⟨n0, n1, l2, n3, n4, n5, n6 == 1, ⟨l7, n8⟩, l9, sz, ⟨n11, n12, l13⟩⟩ (Kd.R_reads' HN2.out).2.1 (Kd.R_reads' HN2.out).2.2 (Kd.R_reads' HN7.out).2.1 (Kd.R_reads' HN7.out).2.2 (Kd.R_reads' HN9.out).2.1 (Kd.R_reads' HN9.out).2.2 (Kd.R_reads' HN10.out).2.1 (Kd.R_reads' HN10.out).2.2 (Kd.R_reads' HN13.out).2.1 (Kd.R_reads' HN13.out).2.2, HBn.out⟩
   ·rw [if_neg c13] at g13; cases g13
  ·rw [if_neg hmax] at gc; cases gc
 ·rw [if_neg c9] at g9; cases g9
end Go.Proofs.Ytecfndblgefhdaa.P
