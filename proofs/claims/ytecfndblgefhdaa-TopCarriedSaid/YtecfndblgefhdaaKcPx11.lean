import Derived.Test.YtecfndblgefhdaaKcPx10
namespace Go.Proofs.Ytecfndblgefhdaa.P
open Go.RowKit Go.Proofs.YtecfndblgefhdaaW.PrintWords Go.Proofs.YtecfndblgefhdaaW.PrintLast Go.Proofs.YtecfndblgefhdaaW.PrintMore
attribute [local go_sem] max2_int min2_int max_two min_two max_three min_three max_four min_four
set_option linter.unusedVariables false
set_option linter.unusedSimpArgs false
theorem qpx110_ {p : Prop} (h : p := by exact ⟨_, z3_, z15_, z90_⟩) : p := h
def link_Put.f (k : Nat) (a0_0 : Int) (a0_1 : Int) (a0_2 : Int) (l0_3 : List ByteArray) (a0_4 : Int) (a1 : ByteArray) : Option (Int × Int × Int × List ByteArray × Int × ByteArray × Int) := (link_Right.f a0_0 a0_1 a0_2 l0_3 a0_4).bind fun t277 => (if t277 = true then (if (a1.size : Int) > 512 then (some (0, 0, 0, ([] : List ByteArray), 0, (⟨#[]⟩ : ByteArray), 5)) else (if (l0_3.length : Int) = 64 then (some (0, 0, 0, ([] : List ByteArray), 0, (⟨#[]⟩ : ByteArray), 6)) else (if (wrap64 (a0_2 + (l0_3.length : Int))) > 1099511627776 then (some (0, 0, 0, ([] : List ByteArray), 0, (⟨#[]⟩ : ByteArray), 6)) else ((slices_Clone_string_string.f l0_3).bind fun t278 => (if t278.length < 8796093022208 then ((some (t278 ++ [a1] : List ByteArray)).bind fun y281 => (if (y281.length : Int) > 4 then (some (a0_0, a0_1, a0_2, y281, a0_4, (⟨#[]⟩ : ByteArray), 0)) else ((link_End_packet.f k a0_0 a0_1 a0_2 y281 a0_4 1 (wrap64 ((wrap64 (a0_2 + (y281.length : Int))) - 1)) a1).bind fun t284 => (some (a0_0, a0_1, a0_2, y281, a0_4, t284, 0))))) else (none)))))) else (some (0, 0, 0, ([] : List ByteArray), 0, (⟨#[]⟩ : ByteArray), 1)))
def link_Put.T10 : Bool × List (List Nat × List Nat) := (true, [([], []), ([], []), ([], []), ([2], [2]), ([], []), ([4], [4]), ([5], [5]), ([3, 6], [3, 6]), ([7], [7]), ([], []), ([1, 8, 9], [1, 8, 9]), ([0, 10, 0], [0]), ([10, 11, 0, 1, 2, 3, 4, 5, 6, 7, 8, 9, 10, 11], [10]), ([12, 0, 1, 2, 3, 4, 5, 6, 7, 8, 9, 10, 11, 12], [])])
def link_Put.B10 : List Nat := [0, 0, 0, 4, 0, 16, 48, 124, 252, 0, 1022, 2047, 4095, 8191]
theorem link_Put.tab10 : rtab .any (opsOf Try.f43 10) = link_Put.T10 := by kernel_rfl
theorem link_Put.bits10 : waitsOk link_Put.T10.2 link_Put.B10 = true := by kernel_rfl
set_option maxHeartbeats 8000000 in
set_option maxRecDepth 100000 in
theorem link_Put.calls (k : Nat) (a0_0 : Int) (a0_1 : Int) (a0_2 : Int) (A0_3 : Option Addr) (c0_3 : Nat) (l0_3 : List ByteArray) (a0_4 : Int) (a1 : ByteArray) (r1 : Int) (r2 : Int) (r3 : Int) (r4 : List ByteArray) (r5 : Int) (r6 : ByteArray) (r7 : Int) (w : World) (hr0_3 : Kd.C Kd.string w A0_3 l0_3.length l0_3) (hc0_3 : l0_3.length ≤ c0_3) (h : link_Put.f k a0_0 a0_1 a0_2 l0_3 a0_4 a1 = some (r1, r2, r3, r4, r5, r6, r7)) :
  Calls Try.prog 43 #[.agg #[.int .i64 a0_0, .int .i64 a0_1, .int .i64 a0_2, .slice A0_3 l0_3.length c0_3, .int .i64 a0_4], .string a1] w fun e w' => ∃ v3_ : Value, e = .returned (.tuple #[.agg #[.int .i64 r1, .int .i64 r2, .int .i64 r3, v3_, .int .i64 r5], .string r6, .int .i64 r7]) ∧ Kd.R Kd.string 9 w' w.heap.size (fun _ => True) v3_ r4 ∧ Below w.heap.size w w' := by
 have hu26 := Try.underlying26
 have HR0_3 := a0_ hr0_3
 have HC0_3 := a0_ hc0_3
 clear hr0_3 hc0_3
 have HB := a0_ (Below.refl w.heap.size w)
 have H : ((link_Right.f a0_0 a0_1 a0_2 l0_3 a0_4).bind fun t277 => (if t277 = true then (if (a1.size : Int) > 512 then (some (0, 0, 0, ([] : List ByteArray), 0, (⟨#[]⟩ : ByteArray), 5)) else (if (l0_3.length : Int) = 64 then (some (0, 0, 0, ([] : List ByteArray), 0, (⟨#[]⟩ : ByteArray), 6)) else (if (wrap64 (a0_2 + (l0_3.length : Int))) > 1099511627776 then (some (0, 0, 0, ([] : List ByteArray), 0, (⟨#[]⟩ : ByteArray), 6)) else ((slices_Clone_string_string.f l0_3).bind fun t278 => (if t278.length < 8796093022208 then ((some (t278 ++ [a1] : List ByteArray)).bind fun y281 => (if (y281.length : Int) > 4 then (some (a0_0, a0_1, a0_2, y281, a0_4, (⟨#[]⟩ : ByteArray), 0)) else ((link_End_packet.f k a0_0 a0_1 a0_2 y281 a0_4 1 (wrap64 ((wrap64 (a0_2 + (y281.length : Int))) - 1)) a1).bind fun t284 => (some (a0_0, a0_1, a0_2, y281, a0_4, t284, 0))))) else (none)))))) else (some (0, 0, 0, ([] : List ByteArray), 0, (⟨#[]⟩ : ByteArray), 1)))) = some (r1, r2, r3, r4, r5, r6, r7) := h
 clear h
 replace H := Option.bind_eq_some_iff.mp H
 obtain ⟨t277, A30, H⟩ := H
 try dsimp only at H
 have A3 := a0_ A30
 clear A30
 by_cases c4 : t277 = true
 ·subst c4
  rw [if_pos rfl] at H
  by_cases c5 : (a1.size : Int) > 512
  ·rw [if_pos c5] at H
   have c5b0 : decide (512 < (a1.size : Int)) = true := decide_eq_true c5
   have c5b1 : decide (512 < a1.size) = true := decide_eq_true z2_
   clear c5
   simp only [Option.some.injEq, Prod.mk.injEq] at H
   obtain ⟨rfl, rfl, rfl, rfl, rfl, rfl, rfl⟩ := H
   go_enter Try.func43, Try.ntmps43
   go_wp2_with (first | ((with_reducible refine gate_dst (N := 2) rfl ?_); (try (refine gate_guard (by rfl) ?_; dsimp only)); refine box_event ?hg (N := 2) ?hd (cs := #[.int .i64 a0_0, .int .i64 a0_1, .int .i64 a0_2, .slice A0_3 l0_3.length c0_3, .int .i64 a0_4]) (t := 26) ?hr ?_; (case hd => rfl); (case hg => rfl); (case hr => exact z7_); intro gb275 hg w6 hbox hb; have n0_ := a0_ (below_step z6_ hb); have n1_ := a0_ (hbox); have n2_ := a0_ ((z8_ : w.heap.size ≤ gb275)); have n3_ := a0_ ((z8_ : w.heap.size ≤ gb275)); clear HB; have HB := n0_; have BK275 := n1_; have GW275 := n2_; have GE275 := n3_; clear n0_ n1_ n2_ n3_; clear hb hbox hg) | ((with_reducible refine gate_dst (N := 4) rfl ?_); (try (refine gate_guard (by rfl) ?_; dsimp only)); refine box_event ?hg (N := 4) ?hd (cs := #[.int .i64 0, .int .i64 0, .int .i64 0, .slice none 0 0, .int .i64 0]) (t := 26) ?hr ?_; (case hd => rfl); (case hg => rfl); (case hr => exact z7_); intro gb276 hg w7 hbox hb; have n0_ := a0_ (blk_below z91_ hb); have n1_ := a0_ (below_step z92_ hb); have n2_ := a0_ (hbox); have n3_ := a0_ ((z93_ : w.heap.size ≤ gb276)); have n4_ := a0_ ((z93_ : w.heap.size ≤ gb276)); have n5_ := a0_ ((z94_ : gb275 ≠ gb276)); have n6_ := a0_ ((z95_ : gb276 ≠ gb275)); clear BK275; clear HB; have BK275 := n0_; have HB := n1_; have BK276 := n2_; have GW276 := n3_; have GE276 := n4_; have NB275_276 := n5_; have NB276_275 := n6_; clear n0_ n1_ n2_ n3_ n4_ n5_ n6_; clear hb hbox hg; have hnb8 := NB275_276.out; have hnc8 := NB276_275.out; obtain ⟨hcz9_0, hcz9_1, hcz9_2, hcz9_3, hcz9_4⟩ := bc5_ BK275.out; obtain ⟨hfz9_0, hfz9_1, hfz9_2, hfz9_3, hfz9_4⟩ := bf5_ BK275.out) | ((with_reducible refine gate_callee (f := 66) rfl ?_); refine goesL_ (some 9) rfl rfl Try.func66 z11_ rfl #[.agg #[.int .i64 a0_0, .int .i64 a0_1, .int .i64 a0_2, .slice A0_3 l0_3.length c0_3, .int .i64 a0_4]] rfl z12_ ?_; (with_reducible refine (link_Right.calls a0_0 a0_1 a0_2 _ _ l0_3 a0_4 true _ ?side1 ?side2 A3.out).mono ?_); (case side1 => exact z96_); (case side2 => exact z84_); rintro e w10 ⟨rfl, hb⟩; refine ⟨_, rfl, ?_⟩; replace BK275 := a0_ (blk_below z91_ hb); replace BK276 := a0_ (blk_below z97_ hb); replace HB := a0_ (below_step z90_ hb); (try clear hb); (try clear hb2); (try clear hk); (try clear hi); obtain ⟨hcz11_0, hcz11_1, hcz11_2, hcz11_3, hcz11_4⟩ := bc5_ BK276.out; obtain ⟨hfz11_0, hfz11_1, hfz11_2, hfz11_3, hfz11_4⟩ := bf5_ BK276.out))
   refine bodyPost_ret (results_ctt rfl _ _ gb276 26 #[.int .i64 0, .int .i64 0, .int .i64 0, .slice none 0 0, .int .i64 0] (0, 0) _ rfl z98_ Try.underlying26 rfl z11_) rfl ?_
   exact qpx110_
  ·rw [if_neg c5] at H
   have c5b0 : decide (512 < (a1.size : Int)) = false := decide_eq_false c5
   have c5b1 : decide (512 < a1.size) = false := decide_eq_false z2_
   clear c5
   by_cases c12 : (l0_3.length : Int) = 64
   ·rw [if_pos c12] at H
    have c12b0 : ((l0_3.length : Int) == 64) = true := beq_iff_eq.mpr c12
    have c12b1 : ((l0_3.length : Int) != 64) = false := bne_eq_false_iff_eq.mpr c12
    clear c12
    simp only [Option.some.injEq, Prod.mk.injEq] at H
    obtain ⟨rfl, rfl, rfl, rfl, rfl, rfl, rfl⟩ := H
    go_enter Try.func43, Try.ntmps43
    go_wp2_with (first | ((with_reducible refine gate_dst (N := 2) rfl ?_); (try (refine gate_guard (by rfl) ?_; dsimp only)); refine box_event ?hg (N := 2) ?hd (cs := #[.int .i64 a0_0, .int .i64 a0_1, .int .i64 a0_2, .slice A0_3 l0_3.length c0_3, .int .i64 a0_4]) (t := 26) ?hr ?_; (case hd => rfl); (case hg => rfl); (case hr => exact z7_); intro gb275 hg w13 hbox hb; have n0_ := a0_ (below_step z6_ hb); have n1_ := a0_ (hbox); have n2_ := a0_ ((z8_ : w.heap.size ≤ gb275)); have n3_ := a0_ ((z8_ : w.heap.size ≤ gb275)); clear HB; have HB := n0_; have BK275 := n1_; have GW275 := n2_; have GE275 := n3_; clear n0_ n1_ n2_ n3_; clear hb hbox hg) | ((with_reducible refine gate_dst (N := 4) rfl ?_); (try (refine gate_guard (by rfl) ?_; dsimp only)); refine box_event ?hg (N := 4) ?hd (cs := #[.int .i64 0, .int .i64 0, .int .i64 0, .slice none 0 0, .int .i64 0]) (t := 26) ?hr ?_; (case hd => rfl); (case hg => rfl); (case hr => exact z7_); intro gb276 hg w14 hbox hb; have n0_ := a0_ (blk_below z91_ hb); have n1_ := a0_ (below_step z92_ hb); have n2_ := a0_ (hbox); have n3_ := a0_ ((z93_ : w.heap.size ≤ gb276)); have n4_ := a0_ ((z93_ : w.heap.size ≤ gb276)); have n5_ := a0_ ((z94_ : gb275 ≠ gb276)); have n6_ := a0_ ((z95_ : gb276 ≠ gb275)); clear BK275; clear HB; have BK275 := n0_; have HB := n1_; have BK276 := n2_; have GW276 := n3_; have GE276 := n4_; have NB275_276 := n5_; have NB276_275 := n6_; clear n0_ n1_ n2_ n3_ n4_ n5_ n6_; clear hb hbox hg; have hnb15 := NB275_276.out; have hnc15 := NB276_275.out; obtain ⟨hcz16_0, hcz16_1, hcz16_2, hcz16_3, hcz16_4⟩ := bc5_ BK275.out; obtain ⟨hfz16_0, hfz16_1, hfz16_2, hfz16_3, hfz16_4⟩ := bf5_ BK275.out) | ((with_reducible refine gate_callee (f := 66) rfl ?_); refine goesL_ (some 9) rfl rfl Try.func66 z11_ rfl #[.agg #[.int .i64 a0_0, .int .i64 a0_1, .int .i64 a0_2, .slice A0_3 l0_3.length c0_3, .int .i64 a0_4]] rfl z12_ ?_; (with_reducible refine (link_Right.calls a0_0 a0_1 a0_2 _ _ l0_3 a0_4 true _ ?side1 ?side2 A3.out).mono ?_); (case side1 => exact z96_); (case side2 => exact z84_); rintro e w17 ⟨rfl, hb⟩; refine ⟨_, rfl, ?_⟩; replace BK275 := a0_ (blk_below z91_ hb); replace BK276 := a0_ (blk_below z97_ hb); replace HB := a0_ (below_step z90_ hb); (try clear hb); (try clear hb2); (try clear hk); (try clear hi); obtain ⟨hcz18_0, hcz18_1, hcz18_2, hcz18_3, hcz18_4⟩ := bc5_ BK275.out; obtain ⟨hfz18_0, hfz18_1, hfz18_2, hfz18_3, hfz18_4⟩ := bf5_ BK275.out; obtain ⟨hcz19_0, hcz19_1, hcz19_2, hcz19_3, hcz19_4⟩ := bc5_ BK276.out; obtain ⟨hfz19_0, hfz19_1, hfz19_2, hfz19_3, hfz19_4⟩ := bf5_ BK276.out))
    refine bodyPost_ret (results_ctt rfl _ _ gb276 26 #[.int .i64 0, .int .i64 0, .int .i64 0, .slice none 0 0, .int .i64 0] (0, 0) _ rfl z98_ Try.underlying26 rfl z11_) rfl ?_
    exact qpx110_
   ·rw [if_neg c12] at H
    have c12b0 : ((l0_3.length : Int) == 64) = false := beq_eq_false_iff_ne.mpr c12
    have c12b1 : ((l0_3.length : Int) != 64) = true := bne_iff_ne.mpr c12
    by_cases c20 : (wrap64 (a0_2 + (l0_3.length : Int))) > 1099511627776
    ·rw [if_pos c20] at H
     have c20b0 : decide (1099511627776 < (wrap64 (a0_2 + (l0_3.length : Int)))) = true := decide_eq_true c20
     clear c20
     simp only [Option.some.injEq, Prod.mk.injEq] at H
     obtain ⟨rfl, rfl, rfl, rfl, rfl, rfl, rfl⟩ := H
     go_enter Try.func43, Try.ntmps43
     go_wp2_with (first | ((with_reducible refine gate_dst (N := 2) rfl ?_); (try (refine gate_guard (by rfl) ?_; dsimp only)); refine box_event ?hg (N := 2) ?hd (cs := #[.int .i64 a0_0, .int .i64 a0_1, .int .i64 a0_2, .slice A0_3 l0_3.length c0_3, .int .i64 a0_4]) (t := 26) ?hr ?_; (case hd => rfl); (case hg => rfl); (case hr => exact z7_); intro gb275 hg w21 hbox hb; have n0_ := a0_ (below_step z6_ hb); have n1_ := a0_ (hbox); have n2_ := a0_ ((z8_ : w.heap.size ≤ gb275)); have n3_ := a0_ ((z8_ : w.heap.size ≤ gb275)); clear HB; have HB := n0_; have BK275 := n1_; have GW275 := n2_; have GE275 := n3_; clear n0_ n1_ n2_ n3_; clear hb hbox hg) | ((with_reducible refine gate_dst (N := 4) rfl ?_); (try (refine gate_guard (by rfl) ?_; dsimp only)); refine box_event ?hg (N := 4) ?hd (cs := #[.int .i64 0, .int .i64 0, .int .i64 0, .slice none 0 0, .int .i64 0]) (t := 26) ?hr ?_; (case hd => rfl); (case hg => rfl); (case hr => exact z7_); intro gb276 hg w22 hbox hb; have n0_ := a0_ (blk_below z91_ hb); have n1_ := a0_ (below_step z92_ hb); have n2_ := a0_ (hbox); have n3_ := a0_ ((z93_ : w.heap.size ≤ gb276)); have n4_ := a0_ ((z93_ : w.heap.size ≤ gb276)); have n5_ := a0_ ((z94_ : gb275 ≠ gb276)); have n6_ := a0_ ((z95_ : gb276 ≠ gb275)); clear BK275; clear HB; have BK275 := n0_; have HB := n1_; have BK276 := n2_; have GW276 := n3_; have GE276 := n4_; have NB275_276 := n5_; have NB276_275 := n6_; clear n0_ n1_ n2_ n3_ n4_ n5_ n6_; clear hb hbox hg; have hnb23 := NB275_276.out; have hnc23 := NB276_275.out; obtain ⟨hcz24_0, hcz24_1, hcz24_2, hcz24_3, hcz24_4⟩ := bc5_ BK275.out; obtain ⟨hfz24_0, hfz24_1, hfz24_2, hfz24_3, hfz24_4⟩ := bf5_ BK275.out) | ((with_reducible refine gate_callee (f := 66) rfl ?_); refine goesL_ (some 9) rfl rfl Try.func66 z11_ rfl #[.agg #[.int .i64 a0_0, .int .i64 a0_1, .int .i64 a0_2, .slice A0_3 l0_3.length c0_3, .int .i64 a0_4]] rfl z12_ ?_; (with_reducible refine (link_Right.calls a0_0 a0_1 a0_2 _ _ l0_3 a0_4 true _ ?side1 ?side2 A3.out).mono ?_); (case side1 => exact z96_); (case side2 => exact z84_); rintro e w25 ⟨rfl, hb⟩; refine ⟨_, rfl, ?_⟩; replace BK275 := a0_ (blk_below z91_ hb); replace BK276 := a0_ (blk_below z97_ hb); replace HB := a0_ (below_step z90_ hb); (try clear hb); (try clear hb2); (try clear hk); (try clear hi); obtain ⟨hcz26_0, hcz26_1, hcz26_2, hcz26_3, hcz26_4⟩ := bc5_ BK275.out; obtain ⟨hfz26_0, hfz26_1, hfz26_2, hfz26_3, hfz26_4⟩ := bf5_ BK275.out; obtain ⟨hcz27_0, hcz27_1, hcz27_2, hcz27_3, hcz27_4⟩ := bc5_ BK276.out; obtain ⟨hfz27_0, hfz27_1, hfz27_2, hfz27_3, hfz27_4⟩ := bf5_ BK276.out))
     refine bodyPost_ret (results_ctt rfl _ _ gb276 26 #[.int .i64 0, .int .i64 0, .int .i64 0, .slice none 0 0, .int .i64 0] (0, 0) _ rfl z98_ Try.underlying26 rfl z11_) rfl ?_
     exact qpx110_
    ·rw [if_neg c20] at H
     have c20b0 : decide (1099511627776 < (wrap64 (a0_2 + (l0_3.length : Int)))) = false := decide_eq_false c20
     clear c20
     replace H := Option.bind_eq_some_iff.mp H
     obtain ⟨t278, A280, H⟩ := H
     try dsimp only at H
     have A28 := a0_ A280
     clear A280
     by_cases c29 : t278.length < 8796093022208
     ·rw [if_pos c29] at H
      have LMc29 := a0_ c29
      clear c29
      obtain ⟨y281, hy281⟩ : ∃ y_ : List ByteArray, y_ = (t278 ++ [a1]) := ⟨_, rfl⟩
      replace H : (if (y281.length : Int) > 4 then (some (a0_0, a0_1, a0_2, y281, a0_4, (⟨#[]⟩ : ByteArray), 0)) else ((link_End_packet.f k a0_0 a0_1 a0_2 y281 a0_4 1 (wrap64 ((wrap64 (a0_2 + (y281.length : Int))) - 1)) a1).bind fun t284 => (some (a0_0, a0_1, a0_2, y281, a0_4, t284, 0)))) = some (r1, r2, r3, r4, r5, r6, r7) := by first | (rw [hy281]; with_reducible exact H) | (have H2_ := (Option.bind_some _ _).symm.trans H; rw [hy281]; with_reducible exact H2_) | (have H2_ := (Option.bind_some _ _).symm.trans H; with_reducible exact H2_) | with_reducible exact H | (rw [hy281]; exact H) | exact H
      have Ny281 := a0_ hy281
      clear hy281
      by_cases c30 : (y281.length : Int) > 4
      ·rw [if_pos c30] at H
       have c30b0 : decide (4 < (y281.length : Int)) = true := decide_eq_true c30
       have c30b1 : decide (4 < y281.length) = true := decide_eq_true z2_
       clear c30
       simp only [Option.some.injEq, Prod.mk.injEq] at H
       obtain ⟨rfl, rfl, rfl, rfl, rfl, rfl, rfl⟩ := H
       go_enter Try.func43, Try.ntmps43
       go_wp2_with (first | ((with_reducible refine gate_dst (N := 2) rfl ?_); (try (refine gate_guard (by rfl) ?_; dsimp only)); refine box_event ?hg (N := 2) ?hd (cs := #[.int .i64 a0_0, .int .i64 a0_1, .int .i64 a0_2, .slice A0_3 l0_3.length c0_3, .int .i64 a0_4]) (t := 26) ?hr ?_; (case hd => rfl); (case hg => rfl); (case hr => exact z7_); intro gb275 hg w31 hbox hb; have n0_ := a0_ (below_step z6_ hb); have n1_ := a0_ (hbox); have n2_ := a0_ ((z8_ : w.heap.size ≤ gb275)); have n3_ := a0_ ((z8_ : w.heap.size ≤ gb275)); clear HB; have HB := n0_; have BK275 := n1_; have GW275 := n2_; have GE275 := n3_; clear n0_ n1_ n2_ n3_; clear hb hbox hg) | ((with_reducible refine gate_dst (N := 4) rfl ?_); (try (refine gate_guard (by rfl) ?_; dsimp only)); refine box_event ?hg (N := 4) ?hd (cs := #[.int .i64 0, .int .i64 0, .int .i64 0, .slice none 0 0, .int .i64 0]) (t := 26) ?hr ?_; (case hd => rfl); (case hg => rfl); (case hr => exact z7_); intro gb276 hg w32 hbox hb; have n0_ := a0_ (blk_below z91_ hb); have n1_ := a0_ (below_step z92_ hb); have n2_ := a0_ (hbox); have n3_ := a0_ ((z93_ : w.heap.size ≤ gb276)); have n4_ := a0_ ((z93_ : w.heap.size ≤ gb276)); have n5_ := a0_ ((z94_ : gb275 ≠ gb276)); have n6_ := a0_ ((z95_ : gb276 ≠ gb275)); clear BK275; clear HB; have BK275 := n0_; have HB := n1_; have BK276 := n2_; have GW276 := n3_; have GE276 := n4_; have NB275_276 := n5_; have NB276_275 := n6_; clear n0_ n1_ n2_ n3_ n4_ n5_ n6_; clear hb hbox hg; have hnb33 := NB275_276.out; have hnc33 := NB276_275.out; obtain ⟨hcz34_0, hcz34_1, hcz34_2, hcz34_3, hcz34_4⟩ := bc5_ BK275.out; obtain ⟨hfz34_0, hfz34_1, hfz34_2, hfz34_3, hfz34_4⟩ := bf5_ BK275.out) | ((with_reducible refine gate_callee (f := 66) rfl ?_); refine goesL_ (some 9) rfl rfl Try.func66 z11_ rfl #[.agg #[.int .i64 a0_0, .int .i64 a0_1, .int .i64 a0_2, .slice A0_3 l0_3.length c0_3, .int .i64 a0_4]] rfl z12_ ?_; (with_reducible refine (link_Right.calls a0_0 a0_1 a0_2 _ _ l0_3 a0_4 true _ ?side1 ?side2 A3.out).mono ?_); (case side1 => exact z96_); (case side2 => exact z84_); rintro e w35 ⟨rfl, hb⟩; refine ⟨_, rfl, ?_⟩; replace BK275 := a0_ (blk_below z91_ hb); replace BK276 := a0_ (blk_below z97_ hb); replace HB := a0_ (below_step z90_ hb); (try clear hb); (try clear hb2); (try clear hk); (try clear hi); obtain ⟨hcz36_0, hcz36_1, hcz36_2, hcz36_3, hcz36_4⟩ := bc5_ BK275.out; obtain ⟨hfz36_0, hfz36_1, hfz36_2, hfz36_3, hfz36_4⟩ := bf5_ BK275.out) | ((with_reducible refine gate_callee (f := 69) rfl ?_); refine goesL_ (some 34) rfl rfl Try.func69 z11_ rfl #[.slice A0_3 l0_3.length c0_3] rfl z12_ ?_; (with_reducible refine (slices_Clone_string_string.calls _ _ l0_3 t278 _ ?side1 ?side2 A28.out).mono ?_); (case side1 => exact z96_); (case side2 => exact z84_); rintro e w37 ⟨v279, rfl, ho0, hb⟩; refine ⟨_, rfl, ?_⟩; have HO280 := a0_ (Kd.R_lower ho0 (below_size z90_)); replace BK275 := a0_ (blk_below z91_ hb); replace BK276 := a0_ (blk_below z97_ hb); replace HB := a0_ (below_step z90_ hb); (try clear hb); (try clear hb2); (try clear hk); (try clear hi); (try clear ho0)) | ((with_reducible refine gate_builtin (b := .append) (xs := #[.tmp 34, .tmp 36]) rfl ?_); (try (refine gate_guard (by rfl) ?_; dsimp only)); at_builtin; refine Kd.R_append Kd.string (w0 := w) w.heap.size rfl (.tmp 34) (.tmp 36) 24 9 (.string ⟨#[]⟩) 16 rfl Try.underlying24 info9 rfl z17_ z2_ v279 t278 a1 [.string a1] (fun _ => True) (fun _ => False) rfl rfl ?aP (fun _ hk => hk.elim) ?aF ?aO ?aB ?aS ?aL ?_; (case aP => exact z72_); (case aB => exact z99_); (case aF => exact z43_); (case aO => exact z100_); (case aS => exact z101_); (case aL => exact z78_); intro v282 w38 ho hb hg hat; rw [← Ny281.out] at ho; have n0_ := a0_ (blk_grown (g := gb275) (o := .cells #[.int .i64 a0_0, .int .i64 a0_1, .int .i64 a0_2, .slice A0_3 l0_3.length c0_3, .int .i64 a0_4] 26 (0, 0)) z91_ hg (Kd.R_ne HO280.out BK275.out z17_)); have n1_ := a0_ (blk_grown (g := gb276) (o := .cells #[.int .i64 0, .int .i64 0, .int .i64 0, .slice none 0 0, .int .i64 0] 26 (0, 0)) z97_ hg (Kd.R_ne HO280.out BK276.out z17_)); have n2_ := a0_ (hb); have n3_ := a0_ (ho); clear BK275; clear BK276; clear HB; clear HO280; have BK275 := n0_; have BK276 := n1_; have HB := n2_; have HO283 := n3_; clear n0_ n1_ n2_ n3_; clear ho hb hg hat; obtain ⟨Ao39, co39, eo39⟩ := Kd.R_slice HO283.out; subst eo39; obtain ⟨hcz40_0, hcz40_1, hcz40_2, hcz40_3, hcz40_4⟩ := bc5_ BK275.out; obtain ⟨hfz40_0, hfz40_1, hfz40_2, hfz40_3, hfz40_4⟩ := bf5_ BK275.out; obtain ⟨hcz41_0, hcz41_1, hcz41_2, hcz41_3, hcz41_4⟩ := bc5_ BK276.out; obtain ⟨hfz41_0, hfz41_1, hfz41_2, hfz41_3, hfz41_4⟩ := bf5_ BK276.out))
       refine bodyPost_ret (results_ctt rfl _ _ gb276 26 #[.int .i64 a0_0, .int .i64 a0_1, .int .i64 a0_2, .slice Ao39 y281.length co39, .int .i64 a0_4] (0, 0) _ rfl (by (with_reducible repeat (first | refine blk_drewN ?_ _ | refine blk_drew ?_ | refine blk_alloc ?_ _)); refine blk_put (cs := #[.int .i64 a0_0, .int .i64 a0_1, .int .i64 a0_2, .slice Ao39 y281.length co39, .int .i64 0]) ?_ 4 _ rfl; (with_reducible repeat (first | refine blk_drewN ?_ _ | refine blk_drew ?_ | refine blk_alloc ?_ _)); refine blk_put (cs := #[.int .i64 a0_0, .int .i64 a0_1, .int .i64 a0_2, .slice none 0 0, .int .i64 0]) ?_ 3 _ rfl; (with_reducible repeat (first | refine blk_drewN ?_ _ | refine blk_drew ?_ | refine blk_alloc ?_ _)); refine blk_put (cs := #[.int .i64 a0_0, .int .i64 a0_1, .int .i64 0, .slice none 0 0, .int .i64 0]) ?_ 2 _ rfl; (with_reducible repeat (first | refine blk_drewN ?_ _ | refine blk_drew ?_ | refine blk_alloc ?_ _)); refine blk_put (cs := #[.int .i64 a0_0, .int .i64 0, .int .i64 0, .slice none 0 0, .int .i64 0]) ?_ 1 _ rfl; (with_reducible repeat (first | refine blk_drewN ?_ _ | refine blk_drew ?_ | refine blk_alloc ?_ _)); refine blk_put (cs := #[.int .i64 0, .int .i64 0, .int .i64 0, .slice none 0 0, .int .i64 0]) ?_ 0 _ rfl; (with_reducible repeat (first | refine blk_drewN ?_ _ | refine blk_drew ?_ | refine blk_alloc ?_ _)); refine blk_far ?_ NB276_275.out _; (with_reducible repeat (first | refine blk_drewN ?_ _ | refine blk_drew ?_ | refine blk_alloc ?_ _)); exact BK276.out) Try.underlying26 rfl z11_) rfl ?_
       exact ⟨_, z3_, by (with_reducible repeat (first | apply Kd.R_alloc | apply Kd.R_drewN | apply Kd.R_drew)); exact Kd.R_mono (Kd.R_far (p := ⟨gb276, 4, none⟩) (Kd.R_far (p := ⟨gb276, 3, none⟩) (Kd.R_far (p := ⟨gb276, 2, none⟩) (Kd.R_far (p := ⟨gb276, 1, none⟩) (Kd.R_far (p := ⟨gb276, 0, none⟩) (Kd.R_far (p := ⟨gb275, 3, none⟩) (Kd.R_types (Kd.R_types HO283.out BK275.out z17_) BK276.out z17_) (fun _ hk => hk.1.2) (.slice Ao39 y281.length co39)) (fun _ hk => hk.2) (.int .i64 a0_0)) (fun _ hk => hk.2) (.int .i64 a0_1)) (fun _ hk => hk.2) (.int .i64 a0_2)) (fun _ hk => hk.2) (.slice Ao39 y281.length co39)) (fun _ hk => hk.2) (.int .i64 a0_4)) (fun _ hk => trivial), z90_⟩
      ·rw [if_neg c30] at H
       have c30b0 : decide (4 < (y281.length : Int)) = false := decide_eq_false c30
       have c30b1 : decide (4 < y281.length) = false := decide_eq_false z2_
       clear c30
       replace H := Option.bind_eq_some_iff.mp H
       obtain ⟨t284, A420, H⟩ := H
       try dsimp only at H
       have A42 := a0_ A420
       clear A420
       simp only [Option.some.injEq, Prod.mk.injEq] at H
       obtain ⟨rfl, rfl, rfl, rfl, rfl, rfl, rfl⟩ := H
       go_enter Try.func43, Try.ntmps43
       try go_wp2_with (first | ((with_reducible refine gate_dst (N := 2) rfl ?_); (try (refine gate_guard (by rfl) ?_; dsimp only)); refine box_event ?hg (N := 2) ?hd (cs := #[.int .i64 a0_0, .int .i64 a0_1, .int .i64 a0_2, .slice A0_3 l0_3.length c0_3, .int .i64 a0_4]) (t := 26) ?hr ?_; (case hd => rfl); (case hg => rfl); (case hr => exact z7_); intro gb275 hg w43 hbox hb; have n0_ := a0_ (below_step z6_ hb); have n1_ := a0_ (hbox); have n2_ := a0_ ((z8_ : w.heap.size ≤ gb275)); have n3_ := a0_ ((z8_ : w.heap.size ≤ gb275)); clear HB; have HB := n0_; have BK275 := n1_; have GW275 := n2_; have GE275 := n3_; clear n0_ n1_ n2_ n3_; clear hb hbox hg) | ((with_reducible refine gate_dst (N := 4) rfl ?_); (try (refine gate_guard (by rfl) ?_; dsimp only)); refine box_event ?hg (N := 4) ?hd (cs := #[.int .i64 0, .int .i64 0, .int .i64 0, .slice none 0 0, .int .i64 0]) (t := 26) ?hr ?_; (case hd => rfl); (case hg => rfl); (case hr => exact z7_); intro gb276 hg w44 hbox hb; have n0_ := a0_ (blk_below z91_ hb); have n1_ := a0_ (below_step z92_ hb); have n2_ := a0_ (hbox); have n3_ := a0_ ((z93_ : w.heap.size ≤ gb276)); have n4_ := a0_ ((z93_ : w.heap.size ≤ gb276)); have n5_ := a0_ ((z94_ : gb275 ≠ gb276)); have n6_ := a0_ ((z95_ : gb276 ≠ gb275)); clear BK275; clear HB; have BK275 := n0_; have HB := n1_; have BK276 := n2_; have GW276 := n3_; have GE276 := n4_; have NB275_276 := n5_; have NB276_275 := n6_; clear n0_ n1_ n2_ n3_ n4_ n5_ n6_; clear hb hbox hg; have hnb45 := NB275_276.out; have hnc45 := NB276_275.out; obtain ⟨hcz46_0, hcz46_1, hcz46_2, hcz46_3, hcz46_4⟩ := bc5_ BK275.out; obtain ⟨hfz46_0, hfz46_1, hfz46_2, hfz46_3, hfz46_4⟩ := bf5_ BK275.out) | ((with_reducible refine gate_callee (f := 66) rfl ?_); refine goesL_ (some 9) rfl rfl Try.func66 z11_ rfl #[.agg #[.int .i64 a0_0, .int .i64 a0_1, .int .i64 a0_2, .slice A0_3 l0_3.length c0_3, .int .i64 a0_4]] rfl z12_ ?_; (with_reducible refine (link_Right.calls a0_0 a0_1 a0_2 _ _ l0_3 a0_4 true _ ?side1 ?side2 A3.out).mono ?_); (case side1 => exact z96_); (case side2 => exact z84_); rintro e w47 ⟨rfl, hb⟩; refine ⟨_, rfl, ?_⟩; replace BK275 := a0_ (blk_below z91_ hb); replace BK276 := a0_ (blk_below z97_ hb); replace HB := a0_ (below_step z90_ hb); (try clear hb); (try clear hb2); (try clear hk); (try clear hi); obtain ⟨hcz48_0, hcz48_1, hcz48_2, hcz48_3, hcz48_4⟩ := bc5_ BK275.out; obtain ⟨hfz48_0, hfz48_1, hfz48_2, hfz48_3, hfz48_4⟩ := bf5_ BK275.out) | ((with_reducible refine gate_callee (f := 69) rfl ?_); refine goesL_ (some 34) rfl rfl Try.func69 z11_ rfl #[.slice A0_3 l0_3.length c0_3] rfl z12_ ?_; (with_reducible refine (slices_Clone_string_string.calls _ _ l0_3 t278 _ ?side1 ?side2 A28.out).mono ?_); (case side1 => exact z96_); (case side2 => exact z84_); rintro e w49 ⟨v279, rfl, ho0, hb⟩; refine ⟨_, rfl, ?_⟩; have HO280 := a0_ (Kd.R_lower ho0 (below_size z90_)); replace BK275 := a0_ (blk_below z91_ hb); replace BK276 := a0_ (blk_below z97_ hb); replace HB := a0_ (below_step z90_ hb); (try clear hb); (try clear hb2); (try clear hk); (try clear hi); (try clear ho0)) | ((with_reducible refine gate_builtin (b := .append) (xs := #[.tmp 34, .tmp 36]) rfl ?_); (try (refine gate_guard (by rfl) ?_; dsimp only)); at_builtin; refine Kd.R_append Kd.string (w0 := w) w.heap.size rfl (.tmp 34) (.tmp 36) 24 9 (.string ⟨#[]⟩) 16 rfl Try.underlying24 info9 rfl z17_ z2_ v279 t278 a1 [.string a1] (fun _ => True) (fun _ => False) rfl rfl ?aP (fun _ hk => hk.elim) ?aF ?aO ?aB ?aS ?aL ?_; (case aP => exact z72_); (case aB => exact z99_); (case aF => exact z43_); (case aO => exact z100_); (case aS => exact z101_); (case aL => exact z78_); intro v282 w50 ho hb hg hat; rw [← Ny281.out] at ho; have n0_ := a0_ (blk_grown (g := gb275) (o := .cells #[.int .i64 a0_0, .int .i64 a0_1, .int .i64 a0_2, .slice A0_3 l0_3.length c0_3, .int .i64 a0_4] 26 (0, 0)) z91_ hg (Kd.R_ne HO280.out BK275.out z17_)); have n1_ := a0_ (blk_grown (g := gb276) (o := .cells #[.int .i64 0, .int .i64 0, .int .i64 0, .slice none 0 0, .int .i64 0] 26 (0, 0)) z97_ hg (Kd.R_ne HO280.out BK276.out z17_)); have n2_ := a0_ (hb); have n3_ := a0_ (ho); clear BK275; clear BK276; clear HB; clear HO280; have BK275 := n0_; have BK276 := n1_; have HB := n2_; have HO283 := n3_; clear n0_ n1_ n2_ n3_; clear ho hb hg hat; obtain ⟨Ao51, co51, eo51⟩ := Kd.R_slice HO283.out; subst eo51; obtain ⟨hcz52_0, hcz52_1, hcz52_2, hcz52_3, hcz52_4⟩ := bc5_ BK275.out; obtain ⟨hfz52_0, hfz52_1, hfz52_2, hfz52_3, hfz52_4⟩ := bf5_ BK275.out))
       have n0_ : Aside0 (Kd.R Kd.string 9 (w50.setCell ⟨gb275, 3, none⟩ (.slice Ao51 y281.length co51)) w.heap.size (fun _ => True) (.slice Ao51 y281.length co51) y281) := ⟨by (with_reducible repeat (first | apply Kd.R_alloc | apply Kd.R_drewN | apply Kd.R_drew)); exact Kd.R_mono (Kd.R_far (p := ⟨gb275, 3, none⟩) (Kd.R_types HO283.out BK275.out z17_) (fun _ hk => hk.2) (.slice Ao51 y281.length co51)) (fun _ hk => trivial)⟩
       have n1_ : Aside0 ((w50.setCell ⟨gb275, 3, none⟩ (.slice Ao51 y281.length co51)).heap[gb275]? = some (.cells #[.int .i64 a0_0, .int .i64 a0_1, .int .i64 a0_2, .slice Ao51 y281.length co51, .int .i64 a0_4] 26 (0, 0))) := ⟨by (with_reducible repeat (first | refine blk_drewN ?_ _ | refine blk_drew ?_ | refine blk_alloc ?_ _)); refine blk_put (cs := #[.int .i64 a0_0, .int .i64 a0_1, .int .i64 a0_2, .slice A0_3 l0_3.length c0_3, .int .i64 a0_4]) ?_ 3 _ rfl; (with_reducible repeat (first | refine blk_drewN ?_ _ | refine blk_drew ?_ | refine blk_alloc ?_ _)); exact BK275.out⟩
       have n2_ : Aside0 ((w50.setCell ⟨gb275, 3, none⟩ (.slice Ao51 y281.length co51)).heap[gb276]? = some (.cells #[.int .i64 0, .int .i64 0, .int .i64 0, .slice none 0 0, .int .i64 0] 26 (0, 0))) := ⟨by (with_reducible repeat (first | refine blk_drewN ?_ _ | refine blk_drew ?_ | refine blk_alloc ?_ _)); refine blk_far ?_ NB276_275.out _; (with_reducible repeat (first | refine blk_drewN ?_ _ | refine blk_drew ?_ | refine blk_alloc ?_ _)); exact BK276.out⟩
       have n3_ : Aside0 (Below w.heap.size w (w50.setCell ⟨gb275, 3, none⟩ (.slice Ao51 y281.length co51))) := ⟨z90_⟩
       (try clear HO283)
       (try clear BK275)
       (try clear BK276)
       (try clear HB)
       generalize (w50.setCell ⟨gb275, 3, none⟩ (.slice Ao51 y281.length co51)) = w53 at n0_ n1_ n2_ n3_ ⊢
       have HO283 := n0_
       have BK275 := n1_
       have BK276 := n2_
       have HB := n3_
       clear n0_ n1_ n2_ n3_
       have n0_ := a0_ (Kd.R_drew HO283.out)
       have n1_ := a0_ (blk_drew BK275.out)
       have n2_ := a0_ (blk_drew BK276.out)
       have n3_ := a0_ (below_drew1 HB.out)
       clear HO283
       clear BK275
       clear BK276
       clear HB
       have HO283 := n0_
       have BK275 := n1_
       have BK276 := n2_
       have HB := n3_
       clear n0_ n1_ n2_ n3_
       refine st_ 14 (S := fun w' => w'.cell? ⟨gb275, 0, none⟩ = some (.int .i64 a0_0) ∧ w'.cell? ⟨gb275, 1, none⟩ = some (.int .i64 a0_1) ∧ w'.cell? ⟨gb275, 2, none⟩ = some (.int .i64 a0_2) ∧ w'.cell? ⟨gb275, 3, none⟩ = some (.slice Ao51 y281.length co51) ∧ w'.cell? ⟨gb275, 4, none⟩ = some (.int .i64 a0_4)) (ds := []) ⟨(blk_cell BK275.out 0).trans rfl, (blk_cell BK275.out 1).trans rfl, (blk_cell BK275.out 2).trans rfl, (blk_cell BK275.out 3).trans rfl, (blk_cell BK275.out 4).trans rfl⟩ (fun hHeld => ?_); refine with_tabW link_Put.tab10 link_Put.bits10 (fun HT_ HW_ => ?_)
       generalize w53.drew = w54 at HO283 BK275 BK276 HB hHeld ⊢
       refine pq_ 2 (some 46) rfl rfl ?_
       refine pq_ 4 (some 48) rfl rfl ?_
       refine pq_ 9 (some 53) rfl rfl ?_
       refine tq_ 0 (some 44) rfl rfl hHeld ?_
       refine tq_ 1 (some 45) rfl rfl hHeld ?_
       refine tq_ 3 (some 47) rfl rfl hHeld ?_
       refine tq_ 5 (some 49) rfl rfl hHeld ?_
       refine pq_ 6 (some 50) rfl rfl ?_
       refine pq_ 7 (some 51) rfl rfl ?_
       refine pq_ 8 (some 52) rfl rfl ?_
       refine oq_ 10 (some 54) rfl rfl (fun K hK => ?_)
       refine goes_ Try.func67 z11_ rfl #[.agg #[.int .i64 a0_0, .int .i64 a0_1, .int .i64 a0_2, .slice Ao51 y281.length co51, .int .i64 a0_4], .int .i64 1, .int .i64 (wrap64 ((wrap64 (a0_2 + (y281.length : Int))) - 1)), .string a1] (by rfl) rfl rfl z12_ ?_
       with_reducible refine (link_End_packet.calls k a0_0 a0_1 a0_2 _ _ y281 a0_4 1 (wrap64 ((wrap64 (a0_2 + (y281.length : Int))) - 1)) a1 t284 _ ?side1 ?side2 A42.out).mono ?_
       (case side1 => repeat (first | exact (Kd.R_reads' HO283.out).2.2 | (with_reducible refine Kd.C_alloc ?_ _) | (with_reducible refine Kd.C_drewN ?_ _) | (with_reducible refine Kd.C_drew ?_)))
       (case side2 => exact (Kd.R_reads' HO283.out).2.1)
       rintro e w55 ⟨rfl, hb⟩
       refine ⟨_, rfl, ?_⟩
       have n0_ := a0_ (Kd.R_below (by (with_reducible repeat (first | apply Kd.R_alloc | apply Kd.R_drewN | apply Kd.R_drew)); exact HO283.out) hb)
       have n1_ := a0_ (blk_below z91_ hb)
       have n2_ := a0_ (blk_below z97_ hb)
       have n3_ := a0_ (below_step z90_ hb)
       clear HO283
       clear BK275
       clear BK276
       clear HB
       have HO283 := n0_
       have BK275 := n1_
       have BK276 := n2_
       have HB := n3_
       clear n0_ n1_ n2_ n3_
       (try clear hb)
       (try clear hb2)
       (try clear hk)
       (try clear hi)
       refine hK.out _ _ (by exact ⟨(blk_cell BK275.out 0).trans rfl, (blk_cell BK275.out 1).trans rfl, (blk_cell BK275.out 2).trans rfl, (blk_cell BK275.out 3).trans rfl, (blk_cell BK275.out 4).trans rfl⟩) (fun hHeld => ?_)
       clear hK K
       refine norm_ (a' := ?_) ?_ ?_
       rotate_left
       ·show Act.put _ (some 54) _ = _
        exact put_
       refine oq_ 11 (none) rfl rfl (fun K hK => ?_)
       have hs56 := blk_cell BK276.out 0
       have hfs56 := blk_frozen BK276.out 0
       have hns56_0 := NB275_276.out
       have hms56_0 := NB276_275.out
       have hs57 := blk_cell BK276.out 1
       have hfs57 := blk_frozen BK276.out 1
       have hns57_0 := NB275_276.out
       have hms57_0 := NB276_275.out
       have hs58 := blk_cell BK276.out 2
       have hfs58 := blk_frozen BK276.out 2
       have hns58_0 := NB275_276.out
       have hms58_0 := NB276_275.out
       have hs59 := blk_cell BK276.out 3
       have hfs59 := blk_frozen BK276.out 3
       have hns59_0 := NB275_276.out
       have hms59_0 := NB276_275.out
       have hs60 := blk_cell BK276.out 4
       have hfs60 := blk_frozen BK276.out 4
       have hns60_0 := NB275_276.out
       have hms60_0 := NB276_275.out
       refine skip_ (w1 := ?_) (by rfl) rfl ?_ ?_
       rotate_left
       ·go_simp
        rfl
       refine hK.out _ _ (by exact ⟨((cell_far (p := ⟨gb276, _, none⟩) NB275_276.out _).trans (((cell_far (p := ⟨gb276, _, none⟩) NB275_276.out _).trans (((cell_far (p := ⟨gb276, _, none⟩) NB275_276.out _).trans (((cell_far (p := ⟨gb276, _, none⟩) NB275_276.out _).trans (((cell_far (p := ⟨gb276, _, none⟩) NB275_276.out _).trans (hHeld.1)))))))))), ((cell_far (p := ⟨gb276, _, none⟩) NB275_276.out _).trans (((cell_far (p := ⟨gb276, _, none⟩) NB275_276.out _).trans (((cell_far (p := ⟨gb276, _, none⟩) NB275_276.out _).trans (((cell_far (p := ⟨gb276, _, none⟩) NB275_276.out _).trans (((cell_far (p := ⟨gb276, _, none⟩) NB275_276.out _).trans (hHeld.2.1)))))))))), ((cell_far (p := ⟨gb276, _, none⟩) NB275_276.out _).trans (((cell_far (p := ⟨gb276, _, none⟩) NB275_276.out _).trans (((cell_far (p := ⟨gb276, _, none⟩) NB275_276.out _).trans (((cell_far (p := ⟨gb276, _, none⟩) NB275_276.out _).trans (((cell_far (p := ⟨gb276, _, none⟩) NB275_276.out _).trans (hHeld.2.2.1)))))))))), ((cell_far (p := ⟨gb276, _, none⟩) NB275_276.out _).trans (((cell_far (p := ⟨gb276, _, none⟩) NB275_276.out _).trans (((cell_far (p := ⟨gb276, _, none⟩) NB275_276.out _).trans (((cell_far (p := ⟨gb276, _, none⟩) NB275_276.out _).trans (((cell_far (p := ⟨gb276, _, none⟩) NB275_276.out _).trans (hHeld.2.2.2.1)))))))))), ((cell_far (p := ⟨gb276, _, none⟩) NB275_276.out _).trans (((cell_far (p := ⟨gb276, _, none⟩) NB275_276.out _).trans (((cell_far (p := ⟨gb276, _, none⟩) NB275_276.out _).trans (((cell_far (p := ⟨gb276, _, none⟩) NB275_276.out _).trans (((cell_far (p := ⟨gb276, _, none⟩) NB275_276.out _).trans (hHeld.2.2.2.2))))))))))⟩) (fun hHeld => ?_)
       clear hK K
       refine pq_ 12 (some 5) rfl rfl ?_
       refine pq_ 13 (some 6) rfl rfl ?_
       refine done_ (done_of HT_.out z11_) ?_
       try go_wp2
       refine bodyPost_ret (results_ctt rfl _ _ gb276 26 #[.int .i64 a0_0, .int .i64 a0_1, .int .i64 a0_2, .slice Ao51 y281.length co51, .int .i64 a0_4] (0, 0) _ rfl (by (with_reducible repeat (first | refine blk_drewN ?_ _ | refine blk_drew ?_ | refine blk_alloc ?_ _)); refine blk_put (cs := #[.int .i64 a0_0, .int .i64 a0_1, .int .i64 a0_2, .slice Ao51 y281.length co51, .int .i64 0]) ?_ 4 _ rfl; (with_reducible repeat (first | refine blk_drewN ?_ _ | refine blk_drew ?_ | refine blk_alloc ?_ _)); refine blk_put (cs := #[.int .i64 a0_0, .int .i64 a0_1, .int .i64 a0_2, .slice none 0 0, .int .i64 0]) ?_ 3 _ rfl; (with_reducible repeat (first | refine blk_drewN ?_ _ | refine blk_drew ?_ | refine blk_alloc ?_ _)); refine blk_put (cs := #[.int .i64 a0_0, .int .i64 a0_1, .int .i64 0, .slice none 0 0, .int .i64 0]) ?_ 2 _ rfl; (with_reducible repeat (first | refine blk_drewN ?_ _ | refine blk_drew ?_ | refine blk_alloc ?_ _)); refine blk_put (cs := #[.int .i64 a0_0, .int .i64 0, .int .i64 0, .slice none 0 0, .int .i64 0]) ?_ 1 _ rfl; (with_reducible repeat (first | refine blk_drewN ?_ _ | refine blk_drew ?_ | refine blk_alloc ?_ _)); refine blk_put (cs := #[.int .i64 0, .int .i64 0, .int .i64 0, .slice none 0 0, .int .i64 0]) ?_ 0 _ rfl; (with_reducible repeat (first | refine blk_drewN ?_ _ | refine blk_drew ?_ | refine blk_alloc ?_ _)); exact BK276.out) Try.underlying26 rfl z11_) rfl ?_
       exact ⟨_, z3_, by (with_reducible repeat (first | apply Kd.R_alloc | apply Kd.R_drewN | apply Kd.R_drew)); exact Kd.R_mono (Kd.R_far (p := ⟨gb276, 4, none⟩) (Kd.R_far (p := ⟨gb276, 3, none⟩) (Kd.R_far (p := ⟨gb276, 2, none⟩) (Kd.R_far (p := ⟨gb276, 1, none⟩) (Kd.R_far (p := ⟨gb276, 0, none⟩) (Kd.R_types HO283.out BK276.out z17_) (fun _ hk => hk.2) (.int .i64 a0_0)) (fun _ hk => hk.2) (.int .i64 a0_1)) (fun _ hk => hk.2) (.int .i64 a0_2)) (fun _ hk => hk.2) (.slice Ao51 y281.length co51)) (fun _ hk => hk.2) (.int .i64 a0_4)) (fun _ hk => trivial), z90_⟩
     ·rw [if_neg c29] at H
      exact absurd H (by simp)
 ·replace c4 := Bool.eq_false_iff.mpr c4
  subst c4
  rw [if_neg (show ¬ (false = true) from z17_)] at H
  simp only [Option.some.injEq, Prod.mk.injEq] at H
  obtain ⟨rfl, rfl, rfl, rfl, rfl, rfl, rfl⟩ := H
  go_enter Try.func43, Try.ntmps43
  go_wp2_with (first | ((with_reducible refine gate_dst (N := 2) rfl ?_); (try (refine gate_guard (by rfl) ?_; dsimp only)); refine box_event ?hg (N := 2) ?hd (cs := #[.int .i64 a0_0, .int .i64 a0_1, .int .i64 a0_2, .slice A0_3 l0_3.length c0_3, .int .i64 a0_4]) (t := 26) ?hr ?_; (case hd => rfl); (case hg => rfl); (case hr => exact z7_); intro gb275 hg w61 hbox hb; have n0_ := a0_ (below_step z6_ hb); have n1_ := a0_ (hbox); have n2_ := a0_ ((z8_ : w.heap.size ≤ gb275)); have n3_ := a0_ ((z8_ : w.heap.size ≤ gb275)); clear HB; have HB := n0_; have BK275 := n1_; have GW275 := n2_; have GE275 := n3_; clear n0_ n1_ n2_ n3_; clear hb hbox hg) | ((with_reducible refine gate_dst (N := 4) rfl ?_); (try (refine gate_guard (by rfl) ?_; dsimp only)); refine box_event ?hg (N := 4) ?hd (cs := #[.int .i64 0, .int .i64 0, .int .i64 0, .slice none 0 0, .int .i64 0]) (t := 26) ?hr ?_; (case hd => rfl); (case hg => rfl); (case hr => exact z7_); intro gb276 hg w62 hbox hb; have n0_ := a0_ (blk_below z91_ hb); have n1_ := a0_ (below_step z92_ hb); have n2_ := a0_ (hbox); have n3_ := a0_ ((z93_ : w.heap.size ≤ gb276)); have n4_ := a0_ ((z93_ : w.heap.size ≤ gb276)); have n5_ := a0_ ((z94_ : gb275 ≠ gb276)); have n6_ := a0_ ((z95_ : gb276 ≠ gb275)); clear BK275; clear HB; have BK275 := n0_; have HB := n1_; have BK276 := n2_; have GW276 := n3_; have GE276 := n4_; have NB275_276 := n5_; have NB276_275 := n6_; clear n0_ n1_ n2_ n3_ n4_ n5_ n6_; clear hb hbox hg; have hnb63 := NB275_276.out; have hnc63 := NB276_275.out; obtain ⟨hcz64_0, hcz64_1, hcz64_2, hcz64_3, hcz64_4⟩ := bc5_ BK275.out; obtain ⟨hfz64_0, hfz64_1, hfz64_2, hfz64_3, hfz64_4⟩ := bf5_ BK275.out) | ((with_reducible refine gate_callee (f := 66) rfl ?_); refine goesL_ (some 9) rfl rfl Try.func66 z11_ rfl #[.agg #[.int .i64 a0_0, .int .i64 a0_1, .int .i64 a0_2, .slice A0_3 l0_3.length c0_3, .int .i64 a0_4]] rfl z12_ ?_; (with_reducible refine (link_Right.calls a0_0 a0_1 a0_2 _ _ l0_3 a0_4 false _ ?side1 ?side2 A3.out).mono ?_); (case side1 => exact z96_); (case side2 => exact z84_); rintro e w65 ⟨rfl, hb⟩; refine ⟨_, rfl, ?_⟩; replace BK275 := a0_ (blk_below z91_ hb); replace BK276 := a0_ (blk_below z97_ hb); replace HB := a0_ (below_step z90_ hb); (try clear hb); (try clear hb2); (try clear hk); (try clear hi); obtain ⟨hcz66_0, hcz66_1, hcz66_2, hcz66_3, hcz66_4⟩ := bc5_ BK276.out; obtain ⟨hfz66_0, hfz66_1, hfz66_2, hfz66_3, hfz66_4⟩ := bf5_ BK276.out))
  refine bodyPost_ret (results_ctt rfl _ _ gb276 26 #[.int .i64 0, .int .i64 0, .int .i64 0, .slice none 0 0, .int .i64 0] (0, 0) _ rfl z98_ Try.underlying26 rfl z11_) rfl ?_
  exact qpx110_
def link_Tick.l0 : Nat → List ByteArray → Int → Int → Int → Int → Int → List ByteArray → Int → Option (List ByteArray)
 | 0, _, _, _, _, _, _, _, _ => none
 | k + 1, x3, x11, x12, x293000, x293001, x293002, x293003, x293004 => if x12 < x11 then (if 0 ≤ x12 then (if x12 < (x293003.length : Int) then ((link_End_packet.f k x293000 x293001 x293002 x293003 x293004 1 (wrap64 (x293002 + x12)) (rdOf ByteArray.empty x293003 x12)).bind fun t295 => (if x3.length < 8796093022208 then (link_Tick.l0 k (x3 ++ [t295]) x11 (wrap64 (x12 + 1)) x293000 x293001 x293002 x293003 x293004) else (none))) else (none)) else (none)) else (some x3)
def link_Tick.f (k : Nat) (a0_0 : Int) (a0_1 : Int) (a0_2 : Int) (l0_3 : List ByteArray) (a0_4 : Int) : Option (List ByteArray) := (link_Right.f a0_0 a0_1 a0_2 l0_3 a0_4).bind fun t293 => (if t293 = true then (link_Tick.l0 k ([] : List ByteArray) (mn (l0_3.length : Int) 4) 0 a0_0 a0_1 a0_2 l0_3 a0_4) else (some ([] : List ByteArray)))
def link_Tick.T7 : Bool × List (List Nat × List Nat) := (true, [([], []), ([], []), ([], []), ([2], [2]), ([], []), ([3, 4], [3, 4]), ([], []), ([6], [6]), ([], []), ([7, 8], [7, 8]), ([9], [9]), ([1, 5, 10], [1, 5, 10]), ([11], [11]), ([0, 12, 11], [0, 12]), ([13, 13, 0, 1, 2, 3, 4, 5, 6, 7, 8, 9, 10, 11, 12, 13], [0, 13])])
def link_Tick.B7 : List Nat := [0, 0, 0, 4, 0, 28, 0, 64, 0, 448, 960, 2046, 4094, 8191, 16383]
theorem link_Tick.tab7 : rtab .any (opsOf Try.f30 7) = link_Tick.T7 := by kernel_rfl
theorem link_Tick.bits7 : waitsOk link_Tick.T7.2 link_Tick.B7 = true := by kernel_rfl
set_option maxHeartbeats 8000000 in
set_option maxRecDepth 100000 in
theorem link_Tick.calls (k : Nat) (a0_0 : Int) (a0_1 : Int) (a0_2 : Int) (A0_3 : Option Addr) (c0_3 : Nat) (l0_3 : List ByteArray) (a0_4 : Int) (r : List ByteArray) (w : World) (hr0_3 : Kd.C Kd.string w A0_3 l0_3.length l0_3) (hc0_3 : l0_3.length ≤ c0_3) (h : link_Tick.f k a0_0 a0_1 a0_2 l0_3 a0_4 = some r) :
  Calls Try.prog 30 #[.agg #[.int .i64 a0_0, .int .i64 a0_1, .int .i64 a0_2, .slice A0_3 l0_3.length c0_3, .int .i64 a0_4]] w fun e w' => ∃ v0_ : Value, e = .returned (v0_) ∧ Kd.R Kd.string 9 w' w.heap.size (fun _ => True) v0_ r ∧ Below w.heap.size w w' := by
 have hu26 := Try.underlying26
 have HR0_3 := a0_ hr0_3
 have HC0_3 := a0_ hc0_3
 clear hr0_3 hc0_3
 have HB := a0_ (Below.refl w.heap.size w)
 have H : ((link_Right.f a0_0 a0_1 a0_2 l0_3 a0_4).bind fun t293 => (if t293 = true then (link_Tick.l0 k ([] : List ByteArray) (mn (l0_3.length : Int) 4) 0 a0_0 a0_1 a0_2 l0_3 a0_4) else (some ([] : List ByteArray)))) = some r := h
 clear h
 replace H := Option.bind_eq_some_iff.mp H
 obtain ⟨t293, A20, H⟩ := H
 try dsimp only at H
 have A2 := a0_ A20
 clear A20
 by_cases c3 : t293 = true
 ·subst c3
  rw [if_pos rfl] at H
  obtain ⟨ji4, hji4⟩ : ∃ j_ : Int, (mn (l0_3.length : Int) 4) = j_ := ⟨_, rfl⟩
  replace H : (link_Tick.l0 k ([] : List ByteArray) ji4 0 a0_0 a0_1 a0_2 l0_3 a0_4) = some r := by first | (rw [hji4] at H; exact H) | (simp only [hji4] at H ⊢; exact H)
  (try rw [hji4] at A2)
  (try (have hji4h : ji4 ≤ 4 := z102_))
  (try (have hji4g : ji4 ≤ 64 := z2_))
  (try (have hji4l : 0 ≤ ji4 := z102_))
  (try (have hji4m : 0 ≤ ji4 := z2_))
  have hji4_ : (if 4 < (l0_3.length : Int) then 4 else (l0_3.length : Int)) = ji4 := hji4
  have H' := a0_ H
  clear H
  go_enter Try.func30, Try.ntmps30
  go_wp2_with (first | ((with_reducible refine gate_dst (N := 1) rfl ?_); refine box_event ?hg (N := 1) ?hd (cs := #[.int .i64 a0_0, .int .i64 a0_1, .int .i64 a0_2, .slice A0_3 l0_3.length c0_3, .int .i64 a0_4]) (t := 26) ?hr ?_; (case hd => rfl); (case hg => rfl); (case hr => exact z7_); intro gb292 hg w5 hbox hb; have n0_ := a0_ (below_step z6_ hb); have n1_ := a0_ (hbox); have n2_ := a0_ ((z8_ : w.heap.size ≤ gb292)); have n3_ := a0_ ((z8_ : w.heap.size ≤ gb292)); clear HB; have HB := n0_; have BK292 := n1_; have GW292 := n2_; have GE292 := n3_; clear n0_ n1_ n2_ n3_; clear hb hbox hg; obtain ⟨hcz6_0, hcz6_1, hcz6_2, hcz6_3, hcz6_4⟩ := bc5_ BK292.out; obtain ⟨hfz6_0, hfz6_1, hfz6_2, hfz6_3, hfz6_4⟩ := bf5_ BK292.out) | ((with_reducible refine gate_callee (f := 66) rfl ?_); refine goesL_ (some 6) rfl rfl Try.func66 z11_ rfl #[.agg #[.int .i64 a0_0, .int .i64 a0_1, .int .i64 a0_2, .slice A0_3 l0_3.length c0_3, .int .i64 a0_4]] rfl z12_ ?_; (with_reducible refine (link_Right.calls a0_0 a0_1 a0_2 _ _ l0_3 a0_4 true _ ?side1 ?side2 A2.out).mono ?_); (case side1 => exact z96_); (case side2 => exact z84_); rintro e w7 ⟨rfl, hb⟩; refine ⟨_, rfl, ?_⟩; replace BK292 := a0_ (blk_below z103_ hb); replace HB := a0_ (below_step z104_ hb); (try clear hb); (try clear hb2); (try clear hk); (try clear hi); obtain ⟨hcz8_0, hcz8_1, hcz8_2, hcz8_3, hcz8_4⟩ := bc5_ BK292.out; obtain ⟨hfz8_0, hfz8_1, hfz8_2, hfz8_3, hfz8_4⟩ := bf5_ BK292.out))
  go_loopg [3, 12] k (fun kq v3 v12 w' => ∃ (x3_1 : List ByteArray) (x12_1 : Int), v12 = .int .i64 x12_1 ∧ Aside0 (link_Tick.l0 kq x3_1 ji4 x12_1 a0_0 a0_1 a0_2 l0_3 a0_4 = some r) ∧ Aside0 (kq ≤ k) ∧ Aside0 (Kd.R Kd.string 9 w' w.heap.size (fun _ => True) v3 x3_1) ∧ Aside0 (w'.heap[gb292]? = some (.cells #[.int .i64 a0_0, .int .i64 a0_1, .int .i64 a0_2, (.slice A0_3 l0_3.length c0_3), .int .i64 a0_4] 26 (0, 0))) ∧ Aside0 (Below w.heap.size w w'))
  case atStart => exact ⟨(([] : List ByteArray)), (0), z9_, H', ⟨Nat.le_refl _⟩, ⟨z15_⟩, ⟨z103_⟩, ⟨z104_⟩⟩
  case round =>
   clear H'
   obtain ⟨x3_1, x12_1, rfl, HA, HK1, HO_3, BK292, HB⟩ := hrel
   cases gk with
   | zero => exact absurd HA.out (by simp [link_Tick.l0])
   | succ k1 =>
    have H := HA.out
    clear HA
    simp only [link_Tick.l0] at H
    by_cases c9 : x12_1 < ji4
    ·rw [if_pos c9] at H
     have c9b0 : decide (x12_1 < ji4) = true := decide_eq_true c9
     clear c9
     by_cases c10 : 0 ≤ x12_1
     ·rw [if_pos c10] at H
      have c10b0 : decide (0 ≤ x12_1) = true := decide_eq_true c10
      clear c10
      by_cases c11 : x12_1 < (l0_3.length : Int)
      ·rw [if_pos c11] at H
       have c11b0 : decide (x12_1 < (l0_3.length : Int)) = true := decide_eq_true c11
       clear c11
       replace H := Option.bind_eq_some_iff.mp H
       obtain ⟨t295, A120, H⟩ := H
       try dsimp only at H
       have A12 := a0_ A120
       clear A120
       by_cases c13 : x3_1.length < 8796093022208
       ·rw [if_pos c13] at H
        have LMc13 := a0_ c13
        clear c13
        obtain ⟨y296, hy296⟩ : ∃ y_ : List ByteArray, y_ = (x3_1 ++ [t295]) := ⟨_, rfl⟩
        replace H : (link_Tick.l0 k1 y296 ji4 (wrap64 (x12_1 + 1)) a0_0 a0_1 a0_2 l0_3 a0_4) = some r := by first | (rw [hy296]; with_reducible exact H) | (have H2_ := (Option.bind_some _ _).symm.trans H; rw [hy296]; with_reducible exact H2_) | (have H2_ := (Option.bind_some _ _).symm.trans H; with_reducible exact H2_) | with_reducible exact H | (rw [hy296]; exact H) | exact H
        have Ny296 := a0_ hy296
        clear hy296
        have H' := a0_ H
        clear H
        try go_wp2
        have n0_ := a0_ (Kd.R_drew HO_3.out)
        have n1_ := a0_ (blk_drew BK292.out)
        have n2_ := a0_ (below_drew1 HB.out)
        clear HO_3
        clear BK292
        clear HB
        have HO_3 := n0_
        have BK292 := n1_
        have HB := n2_
        clear n0_ n1_ n2_
        have p294 : 0 ≤ (x12_1 : Int) := of_decide_eq_true z19_
        have q294 : x12_1 < (l0_3.length : Int) := of_decide_eq_true z19_
        obtain ⟨ad294, e294, hx294_0⟩ := Kd.at_string HR0_3.out x12_1 p294 q294
        have hw294_0 := hx294_0
        cases e294
        replace hx294_0 := (HB.out.cell (World.block_lt_of_cell? w _ hx294_0)).trans hx294_0
        replace p294 := eq_true p294
        replace q294 := eq_true q294
        refine st_ 15 (S := fun w' => w'.cell? ⟨gb292, 0, none⟩ = some (.int .i64 a0_0) ∧ w'.cell? ⟨gb292, 1, none⟩ = some (.int .i64 a0_1) ∧ w'.cell? ⟨gb292, 2, none⟩ = some (.int .i64 a0_2) ∧ w'.cell? ⟨gb292, 3, none⟩ = some (.slice (some ad294) l0_3.length c0_3) ∧ w'.cell? ⟨gb292, 4, none⟩ = some (.int .i64 a0_4) ∧ w'.cell? (ad294.add (x12_1).toNat) = some (.string (rdOf ByteArray.empty l0_3 x12_1))) (ds := []) ⟨(blk_cell BK292.out 0).trans rfl, (blk_cell BK292.out 1).trans rfl, (blk_cell BK292.out 2).trans rfl, (blk_cell BK292.out 3).trans rfl, (blk_cell BK292.out 4).trans rfl, ((HB.out.cell (World.block_lt_of_cell? w _ hw294_0)).trans hw294_0)⟩ (fun hHeld => ?_); refine with_tabW link_Tick.tab7 link_Tick.bits7 (fun HT_ HW_ => ?_)
        generalize wr.drew = w14 at HO_3 BK292 HB hx294_0 hHeld ⊢
        refine pq_ 0 (some 15) rfl rfl ?_
        refine pq_ 2 (some 17) rfl rfl ?_
        refine pq_ 4 (some 19) rfl rfl ?_
        refine pq_ 6 (some 21) rfl rfl ?_
        refine pq_ 8 (some 23) rfl rfl ?_
        refine tq_ 1 (some 16) rfl rfl hHeld ?_
        refine tq_ 3 (some 18) rfl rfl hHeld ?_
        refine pq_ 5 (some 20) rfl rfl ?_
        refine tq_ 7 (some 22) rfl rfl hHeld ?_
        refine pq_ 9 (some 24) rfl rfl ?_
        refine tq_ 10 (some 25) rfl rfl hHeld ?_
        refine oq_ 11 (some 26) rfl rfl (fun K hK => ?_)
        refine goes_ Try.func67 z11_ rfl #[.agg #[.int .i64 a0_0, .int .i64 a0_1, .int .i64 a0_2, .slice (some ad294) l0_3.length c0_3, .int .i64 a0_4], .int .i64 1, .int .i64 (wrap64 (a0_2 + x12_1)), .string (rdOf ByteArray.empty l0_3 x12_1)] (by rfl) rfl rfl z12_ ?_
        with_reducible refine (link_End_packet.calls k1 a0_0 a0_1 a0_2 _ _ l0_3 a0_4 1 (wrap64 (a0_2 + x12_1)) (rdOf ByteArray.empty l0_3 x12_1) t295 _ ?side1 ?side2 A12.out).mono ?_
        (case side1 => exact z96_)
        (case side2 => exact z84_)
        rintro e w15 ⟨rfl, hb⟩
        refine ⟨_, rfl, ?_⟩
        have n0_ := a0_ (Kd.R_below z67_ hb)
        have n1_ := a0_ (blk_below z103_ hb)
        have n2_ := a0_ (below_step z104_ hb)
        clear HO_3
        clear BK292
        clear HB
        have HO_3 := n0_
        have BK292 := n1_
        have HB := n2_
        clear n0_ n1_ n2_
        (try clear hb)
        (try clear hb2)
        (try clear hk)
        (try clear hi)
        refine hK.out _ _ ⟨(blk_cell BK292.out 0).trans rfl, (blk_cell BK292.out 1).trans rfl, (blk_cell BK292.out 2).trans rfl, (blk_cell BK292.out 3).trans rfl, (blk_cell BK292.out 4).trans rfl, ((HB.out.cell (World.block_lt_of_cell? w _ hw294_0)).trans hw294_0)⟩ (fun hHeld => ?_)
        clear hK K
        refine norm_ (a' := ?_) ?_ ?_
        rotate_left
        ·show Act.put _ (some 26) _ = _
         exact put_
        refine oq_ 12 (some 27) rfl rfl (fun K hK => ?_)
        refine value_ (w1 := ?_) (v := ?_) (by rfl) rfl ?_ ?_
        rotate_left 2
        ·go_simp
         constructor
         ·rfl
         ·rfl
        refine hK.out _ _ ⟨(blk_cell (blk_alloc BK292.out _) 0).trans rfl, (blk_cell (blk_alloc BK292.out _) 1).trans rfl, (blk_cell (blk_alloc BK292.out _) 2).trans rfl, (blk_cell (blk_alloc BK292.out _) 3).trans rfl, (blk_cell (blk_alloc BK292.out _) 4).trans rfl, (World.cell?_alloc_lt _ _ _ (World.block_lt_of_cell? _ _ (((HB.out.cell (World.block_lt_of_cell? w _ hw294_0)).trans hw294_0)))).trans (((HB.out.cell (World.block_lt_of_cell? w _ hw294_0)).trans hw294_0))⟩ (fun hHeld => ?_)
        clear hK K
        refine norm_ (a' := ?_) ?_ ?_
        rotate_left
        ·show Act.put _ (some 27) _ = _
         exact put_
        refine oq_ 13 (some 28) rfl rfl (fun K hK => ?_)
        refine Kd.R_append_step Kd.string (w0 := w) w.heap.size (by rfl) (.tmp 15) (.tmp 27) 24 9 (.string ⟨#[]⟩) 16 rfl Try.underlying24 info9 rfl z17_ z2_ u3 x3_1 t295 [.string t295] (fun _ => True) (fun _ => False) rfl rfl ?aP (fun _ hk => hk.elim) ?aF ?aO ?aB ?aS ?aL ?_
        (case aP => exact z72_)
        (case aB => exact z104_)
        (case aF => exact z43_)
        (case aO => exact z105_)
        (case aS => exact (below_size z104_))
        (case aL => have := LMc13.out; omega)
        intro v297 w16 ho hb hg hat
        rw [← Ny296.out] at ho
        have n0_ := a0_ (blk_grown (g := gb292) (o := .cells #[.int .i64 a0_0, .int .i64 a0_1, .int .i64 a0_2, .slice (some ad294) l0_3.length c0_3, .int .i64 a0_4] 26 (0, 0)) z103_ hg (Kd.R_ne HO_3.out BK292.out z17_))
        have n1_ := a0_ (hb)
        have n2_ := a0_ (ho)
        clear BK292
        clear HB
        clear HO_3
        have BK292 := n0_
        have HB := n1_
        have HO298 := n2_
        clear n0_ n1_ n2_
        clear ho hb hg hat
        refine hK.out _ _ ⟨(blk_cell BK292.out 0).trans rfl, (blk_cell BK292.out 1).trans rfl, (blk_cell BK292.out 2).trans rfl, (blk_cell BK292.out 3).trans rfl, (blk_cell BK292.out 4).trans rfl, ((HB.out.cell (World.block_lt_of_cell? w _ hw294_0)).trans hw294_0)⟩ (fun hHeld => ?_)
        clear hK K
        refine norm_ (a' := ?_) ?_ ?_
        rotate_left
        ·show Act.put _ (some 28) _ = _
         exact put_
        refine pq_ 14 (some 3) rfl rfl ?_
        refine done_ (done_of HT_.out z11_) ?_
        try go_wp2
        go_roundg k1
        case measure => have := HK1.out; omega
        case rel => exact ⟨(y296), (wrap64 (x12_1 + 1)), z9_, H', ⟨z21_⟩, ⟨by (with_reducible repeat (first | apply Kd.R_alloc | apply Kd.R_drewN | apply Kd.R_drew)); exact HO298.out⟩, ⟨z103_⟩, ⟨z104_⟩⟩
       ·rw [if_neg c13] at H
        exact absurd H (by simp)
      ·rw [if_neg c11] at H
       exact absurd H (by simp)
     ·rw [if_neg c10] at H
      exact absurd H (by simp)
    ·rw [if_neg c9] at H
     have c9b0 : decide (x12_1 < ji4) = false := decide_eq_false c9
     clear c9
     obtain rfl := Option.some.inj H
     go_wp2
     go_ret
     exact ⟨_, z28_, z67_, z104_⟩
 ·replace c3 := Bool.eq_false_iff.mpr c3
  subst c3
  rw [if_neg (show ¬ (false = true) from z17_)] at H
  obtain rfl := Option.some.inj H
  go_enter Try.func30, Try.ntmps30
  go_wp2_with (first | ((with_reducible refine gate_dst (N := 1) rfl ?_); refine box_event ?hg (N := 1) ?hd (cs := #[.int .i64 a0_0, .int .i64 a0_1, .int .i64 a0_2, .slice A0_3 l0_3.length c0_3, .int .i64 a0_4]) (t := 26) ?hr ?_; (case hd => rfl); (case hg => rfl); (case hr => exact z7_); intro gb292 hg w17 hbox hb; have n0_ := a0_ (below_step z6_ hb); have n1_ := a0_ (hbox); have n2_ := a0_ ((z8_ : w.heap.size ≤ gb292)); have n3_ := a0_ ((z8_ : w.heap.size ≤ gb292)); clear HB; have HB := n0_; have BK292 := n1_; have GW292 := n2_; have GE292 := n3_; clear n0_ n1_ n2_ n3_; clear hb hbox hg; obtain ⟨hcz18_0, hcz18_1, hcz18_2, hcz18_3, hcz18_4⟩ := bc5_ BK292.out; obtain ⟨hfz18_0, hfz18_1, hfz18_2, hfz18_3, hfz18_4⟩ := bf5_ BK292.out) | ((with_reducible refine gate_callee (f := 66) rfl ?_); refine goesL_ (some 6) rfl rfl Try.func66 z11_ rfl #[.agg #[.int .i64 a0_0, .int .i64 a0_1, .int .i64 a0_2, .slice A0_3 l0_3.length c0_3, .int .i64 a0_4]] rfl z12_ ?_; (with_reducible refine (link_Right.calls a0_0 a0_1 a0_2 _ _ l0_3 a0_4 false _ ?side1 ?side2 A2.out).mono ?_); (case side1 => exact z96_); (case side2 => exact z84_); rintro e w19 ⟨rfl, hb⟩; refine ⟨_, rfl, ?_⟩; replace BK292 := a0_ (blk_below z103_ hb); replace HB := a0_ (below_step z104_ hb); (try clear hb); (try clear hb2); (try clear hk); (try clear hi)))
  go_ret
  exact ⟨_, z3_, z15_, z104_⟩
mutual
def octet_Get.j0 : Nat → ByteArray → Bool → Option (Int × Int)
 | 0, _, _ => none
 | k + 1, x0, x13 => if x13 = true then (some (0, 1)) else (octet_Get.l0 k x0 0 (x0.size : Int) 0)
def octet_Get.l0 : Nat → ByteArray → Int → Int → Int → Option (Int × Int)
 | 0, _, _, _, _ => none
 | k + 1, x0, x4, x15, x16 => if x16 < x15 then (if 0 ≤ x16 then (if x16 < (x0.size : Int) then (octet_Get.l0 k x0 (Go.bits .or .u64 (IntKind.u64.wrap (x4 * 256)) (IntKind.u64.wrap (bt x0 x16))) x15 (wrap64 (x16 + 1))) else (none)) else (none)) else (if x4 > 9223372036854775807 then (some (0, 10)) else (some (wrap64 (x4), 0)))
end
def octet_Get.f (k : Nat) (a0 : ByteArray) : Option (Int × Int) := if (a0.size : Int) < 1 then (octet_Get.j0 k a0 true) else (octet_Get.j0 k a0 (decide ((a0.size : Int) > 8)))
set_option maxHeartbeats 8000000 in
set_option maxRecDepth 100000 in
theorem octet_Get.calls (k : Nat) (a0 : ByteArray) (r1 : Int) (r2 : Int) (w : World) (h : octet_Get.f k a0 = some (r1, r2)) :
  Calls Try.prog 73 #[.string a0] w fun e w' => e = .returned (.tuple #[.int .i64 r1, .int .i64 r2]) ∧ Drawn0 w w' := by
 have H : (if (a0.size : Int) < 1 then (octet_Get.j0 k a0 true) else (octet_Get.j0 k a0 (decide ((a0.size : Int) > 8)))) = some (r1, r2) := h
 clear h
 have HC2 := a0_ H
 clear H
 go_enter Try.func73, Try.ntmps73
 go_upto_region 1 with (fail)
 go_cut [13] (fun v13 wc => ∃ (kq : Nat) (x13_1 : Bool), v13 = .bool x13_1 ∧ Aside0 (octet_Get.j0 kq a0 x13_1 = some (r1, r2)) ∧ Aside0 (kq ≤ k) ∧ Drawn0 w wc)
 case first =>
  have H := HC2.out
  clear HC2
  by_cases c3 : (a0.size : Int) < 1
  ·rw [if_pos c3] at H
   have c3b0 : decide ((a0.size : Int) < 1) = true := decide_eq_true c3
   have c3b1 : decide (a0.size < 1) = true := decide_eq_true z2_
   clear c3
   (first | rw [c3b0] | (simp only [i64_w, i32_w]; rw [c3b0]) | skip)
   have H' := a0_ H
   clear H
   go_wp2
   go_meet
   case rel => exact ⟨_, (true), z9_, H', ⟨z18_⟩, z10_⟩
  ·rw [if_neg c3] at H
   have c3b0 : decide ((a0.size : Int) < 1) = false := decide_eq_false c3
   have c3b1 : decide (a0.size < 1) = false := decide_eq_false z2_
   clear c3
   (first | rw [c3b0] | (simp only [i64_w, i32_w]; rw [c3b0]) | skip)
   have H' := a0_ H
   clear H
   go_wp2
   go_meet
   case rel => exact ⟨_, (decide ((a0.size : Int) > 8)), z9_, H', ⟨z18_⟩, z10_⟩
 case rest =>
  clear HC2
  obtain ⟨kq, x13_1, rfl, HA, HJ1, ⟨mc1, rfl⟩⟩ := hcut
  cases kq with
  | zero => exact absurd HA.out (by simp [octet_Get.j0])
  | succ kj1 =>
   have H := HA.out
   clear HA
   simp only [octet_Get.j0] at H
   by_cases c4 : x13_1 = true
   ·subst c4
    rw [if_pos rfl] at H
    simp only [Option.some.injEq, Prod.mk.injEq] at H
    obtain ⟨rfl, rfl⟩ := H
    go_wp2
    go_ret2
    exact ⟨z9_, z10_⟩
   ·replace c4 := Bool.eq_false_iff.mpr c4
    subst c4
    rw [if_neg (show ¬ (false = true) from z17_)] at H
    have H' := a0_ H
    clear H
    go_wp2
    go_loopg [4, 16] kj1 (fun kq v4 v16 w' => ∃ (x4_2 : Int) (x16_2 : Int), v4 = .int .u64 x4_2 ∧ v16 = .int .i64 x16_2 ∧ Aside0 (octet_Get.l0 kq a0 x4_2 (a0.size : Int) x16_2 = some (r1, r2)) ∧ Aside0 (kq ≤ kj1) ∧ Drawn0 w w')
    case atStart => exact ⟨(0), (0), z9_, z9_, H', ⟨Nat.le_refl _⟩, z10_⟩
    case round =>
     clear H'
     obtain ⟨x4_2, x16_2, rfl, rfl, HA, HK2, ⟨m2, rfl⟩⟩ := hrel
     cases gk with
     | zero => exact absurd HA.out (by simp [octet_Get.l0])
     | succ k2 =>
      have H := HA.out
      clear HA
      simp only [octet_Get.l0] at H
      by_cases c5 : x16_2 < (a0.size : Int)
      ·rw [if_pos c5] at H
       have c5b0 : decide (x16_2 < (a0.size : Int)) = true := decide_eq_true c5
       clear c5
       by_cases c6 : 0 ≤ x16_2
       ·rw [if_pos c6] at H
        have c6b0 : decide (0 ≤ x16_2) = true := decide_eq_true c6
        clear c6
        by_cases c7 : x16_2 < (a0.size : Int)
        ·rw [if_pos c7] at H
         have c7b0 : decide (x16_2 < (a0.size : Int)) = true := decide_eq_true c7
         clear c7
         have H' := a0_ H
         clear H
         have p8 : 0 ≤ (x16_2 : Int) := of_decide_eq_true z19_
         have q8 : x16_2 < (a0.size : Int) := of_decide_eq_true z19_
         have hx8 := bt_at a0 x16_2
         replace p8 := eq_true p8
         replace q8 := eq_true q8
         go_wp2
         go_roundg k2
         case measure => have := HJ1.out; have := HK2.out; omega
         case rel => exact ⟨(Go.bits .or .u64 (IntKind.u64.wrap (x4_2 * 256)) (IntKind.u64.wrap (bt a0 x16_2))), (wrap64 (x16_2 + 1)), z9_, z9_, H', ⟨z20_⟩, z10_⟩
        ·rw [if_neg c7] at H
         exact absurd H (by simp)
       ·rw [if_neg c6] at H
        exact absurd H (by simp)
      ·rw [if_neg c5] at H
       have c5b0 : decide (x16_2 < (a0.size : Int)) = false := decide_eq_false c5
       clear c5
       by_cases c9 : x4_2 > 9223372036854775807
       ·rw [if_pos c9] at H
        have c9b0 : decide (9223372036854775807 < x4_2) = true := decide_eq_true c9
        clear c9
        simp only [Option.some.injEq, Prod.mk.injEq] at H
        obtain ⟨rfl, rfl⟩ := H
        go_wp2
        go_ret2
        exact ⟨z9_, z10_⟩
       ·rw [if_neg c9] at H
        have c9b0 : decide (9223372036854775807 < x4_2) = false := decide_eq_false c9
        clear c9
        simp only [Option.some.injEq, Prod.mk.injEq] at H
        obtain ⟨rfl, rfl⟩ := H
        go_wp2
        go_ret2
        exact ⟨z9_, z10_⟩
end Go.Proofs.Ytecfndblgefhdaa.P
