import Derived.Test.YtecfndblgefhdaaKcPx12
namespace Go.Proofs.Ytecfndblgefhdaa.P
open Go.RowKit Go.Proofs.YtecfndblgefhdaaW.PrintWords Go.Proofs.YtecfndblgefhdaaW.PrintLast Go.Proofs.YtecfndblgefhdaaW.PrintMore
attribute [local go_sem] max2_int min2_int max_two min_two max_three min_three max_four min_four
set_option linter.unusedVariables false
set_option linter.unusedSimpArgs false
theorem qpx150_ {p : Prop} (h : p := by exact ⟨_, z3_, z15_, z111_⟩) : p := h
def seg_Feed.l0 : Nat → List Int → List ByteArray → Int → Int → Option (Int × List ByteArray × ByteArray × Bool × Int)
 | 0, _, _, _, _ => none
 | k + 1, x14, x74, x75, x76 => if x76 < x75 then (if 0 ≤ x76 then (if x76 < (x74.length : Int) then (if x14.length + (rdOf ByteArray.empty x74 x76).size < 150000000000000 then (seg_Feed.l0 k (x14 ++ bytesOf (rdOf ByteArray.empty x74 x76)) x74 x75 (wrap64 (x76 + 1))) else (none)) else (none)) else (none)) else (some (0, ([] : List ByteArray), strOfNums x14, true, 0))
def seg_Feed.f (k : Nat) (a0_0 : Int) (l0_1 : List ByteArray) (a1 : ByteArray) : Option (Int × List ByteArray × ByteArray × Bool × Int) := (octet_Number.f k a1 2).bind fun bt307 => ((octet_Number.f k bt307.2.1 2).bind fun bt310 => (if bt307.2.2 = 0 then (if bt310.2.2 = 0 then (if bt307.1 ≥ bt310.1 then (some (0, ([] : List ByteArray), (⟨#[]⟩ : ByteArray), false, 3)) else (if bt307.1 = 0 then ((slices_Clone_string_string.f ([] : List ByteArray)).bind fun t313 => (if t313.length < 8796093022208 then ((some (t313 ++ [bt310.2.1] : List ByteArray)).bind fun y316 => (if (y316.length : Int) < bt310.1 then (some (bt310.1, y316, (⟨#[]⟩ : ByteArray), false, 0)) else (seg_Feed.l0 k ([] : List Int) y316 (y316.length : Int) 0))) else (none))) else (if bt307.1 = (l0_1.length : Int) then (if bt310.1 = a0_0 then ((slices_Clone_string_string.f l0_1).bind fun t323 => (if t323.length < 8796093022208 then ((some (t323 ++ [bt310.2.1] : List ByteArray)).bind fun y326 => (if (y326.length : Int) < bt310.1 then (some (a0_0, y326, (⟨#[]⟩ : ByteArray), false, 0)) else (seg_Feed.l0 k ([] : List Int) y326 (y326.length : Int) 0))) else (none))) else (some (0, ([] : List ByteArray), (⟨#[]⟩ : ByteArray), false, 8))) else (some (0, ([] : List ByteArray), (⟨#[]⟩ : ByteArray), false, 8))))) else (some (0, ([] : List ByteArray), (⟨#[]⟩ : ByteArray), false, 2))) else (some (0, ([] : List ByteArray), (⟨#[]⟩ : ByteArray), false, 2))))
set_option maxHeartbeats 8000000 in
set_option maxRecDepth 100000 in
theorem seg_Feed.calls (k : Nat) (a0_0 : Int) (A0_1 : Option Addr) (c0_1 : Nat) (l0_1 : List ByteArray) (a1 : ByteArray) (r1 : Int) (r2 : List ByteArray) (r3 : ByteArray) (r4 : Bool) (r5 : Int) (w : World) (hr0_1 : Kd.C Kd.string w A0_1 l0_1.length l0_1) (hc0_1 : l0_1.length ≤ c0_1) (h : seg_Feed.f k a0_0 l0_1 a1 = some (r1, r2, r3, r4, r5)) :
  Calls Try.prog 70 #[.agg #[.int .i64 a0_0, .slice A0_1 l0_1.length c0_1], .string a1] w fun e w' => ∃ v1_ : Value, e = .returned (.tuple #[.agg #[.int .i64 r1, v1_], .string r3, .bool r4, .int .i64 r5]) ∧ Kd.R Kd.string 9 w' w.heap.size (fun _ => True) v1_ r2 ∧ Below w.heap.size w w' := by
 have hu35 := Try.underlying35
 have HR0_1 := a0_ hr0_1
 have HC0_1 := a0_ hc0_1
 clear hr0_1 hc0_1
 have HB := a0_ (Below.refl w.heap.size w)
 have H : ((octet_Number.f k a1 2).bind fun bt307 => ((octet_Number.f k bt307.2.1 2).bind fun bt310 => (if bt307.2.2 = 0 then (if bt310.2.2 = 0 then (if bt307.1 ≥ bt310.1 then (some (0, ([] : List ByteArray), (⟨#[]⟩ : ByteArray), false, 3)) else (if bt307.1 = 0 then ((slices_Clone_string_string.f ([] : List ByteArray)).bind fun t313 => (if t313.length < 8796093022208 then ((some (t313 ++ [bt310.2.1] : List ByteArray)).bind fun y316 => (if (y316.length : Int) < bt310.1 then (some (bt310.1, y316, (⟨#[]⟩ : ByteArray), false, 0)) else (seg_Feed.l0 k ([] : List Int) y316 (y316.length : Int) 0))) else (none))) else (if bt307.1 = (l0_1.length : Int) then (if bt310.1 = a0_0 then ((slices_Clone_string_string.f l0_1).bind fun t323 => (if t323.length < 8796093022208 then ((some (t323 ++ [bt310.2.1] : List ByteArray)).bind fun y326 => (if (y326.length : Int) < bt310.1 then (some (a0_0, y326, (⟨#[]⟩ : ByteArray), false, 0)) else (seg_Feed.l0 k ([] : List Int) y326 (y326.length : Int) 0))) else (none))) else (some (0, ([] : List ByteArray), (⟨#[]⟩ : ByteArray), false, 8))) else (some (0, ([] : List ByteArray), (⟨#[]⟩ : ByteArray), false, 8))))) else (some (0, ([] : List ByteArray), (⟨#[]⟩ : ByteArray), false, 2))) else (some (0, ([] : List ByteArray), (⟨#[]⟩ : ByteArray), false, 2))))) = some (r1, r2, r3, r4, r5) := h
 clear h
 replace H := Option.bind_eq_some_iff.mp H
 obtain ⟨⟨t307, t308, t309⟩, A30, H⟩ := H
 try dsimp only at H
 have A3 := a0_ A30
 clear A30
 replace H := Option.bind_eq_some_iff.mp H
 obtain ⟨⟨t310, t311, t312⟩, A40, H⟩ := H
 try dsimp only at H
 have A4 := a0_ A40
 clear A40
 by_cases c5 : t309 = 0
 ·rw [if_pos c5] at H
  have c5b0 : (t309 == 0) = true := beq_iff_eq.mpr c5
  have c5b1 : (t309 != 0) = false := bne_eq_false_iff_eq.mpr c5
  clear c5
  by_cases c6 : t312 = 0
  ·rw [if_pos c6] at H
   have c6b0 : (t312 == 0) = true := beq_iff_eq.mpr c6
   have c6b1 : (t312 != 0) = false := bne_eq_false_iff_eq.mpr c6
   clear c6
   by_cases c7 : t307 ≥ t310
   ·rw [if_pos c7] at H
    have c7b0 : decide (t310 ≤ t307) = true := decide_eq_true c7
    clear c7
    simp only [Option.some.injEq, Prod.mk.injEq] at H
    obtain ⟨rfl, rfl, rfl, rfl, rfl⟩ := H
    go_enter Try.func70, Try.ntmps70
    go_wp2_with (first | ((with_reducible refine gate_dst (N := 2) rfl ?_); refine box_event ?hg (N := 2) ?hd (cs := #[.int .i64 a0_0, .slice A0_1 l0_1.length c0_1]) (t := 35) ?hr ?_; (case hd => rfl); (case hg => rfl); (case hr => exact z7_); intro gb305 hg w8 hbox hb; have n0_ := a0_ (below_step z6_ hb); have n1_ := a0_ (hbox); have n2_ := a0_ ((z8_ : w.heap.size ≤ gb305)); have n3_ := a0_ ((z8_ : w.heap.size ≤ gb305)); clear HB; have HB := n0_; have BK305 := n1_; have GW305 := n2_; have GE305 := n3_; clear n0_ n1_ n2_ n3_; clear hb hbox hg) | ((with_reducible refine gate_dst (N := 4) rfl ?_); refine box_event ?hg (N := 4) ?hd (cs := #[.int .i64 0, .slice none 0 0]) (t := 35) ?hr ?_; (case hd => rfl); (case hg => rfl); (case hr => exact z7_); intro gb306 hg w9 hbox hb; have n0_ := a0_ (blk_below z112_ hb); have n1_ := a0_ (below_step z113_ hb); have n2_ := a0_ (hbox); have n3_ := a0_ ((z114_ : w.heap.size ≤ gb306)); have n4_ := a0_ ((z114_ : w.heap.size ≤ gb306)); have n5_ := a0_ ((z115_ : gb305 ≠ gb306)); have n6_ := a0_ ((z116_ : gb306 ≠ gb305)); clear BK305; clear HB; have BK305 := n0_; have HB := n1_; have BK306 := n2_; have GW306 := n3_; have GE306 := n4_; have NB305_306 := n5_; have NB306_305 := n6_; clear n0_ n1_ n2_ n3_ n4_ n5_ n6_; clear hb hbox hg) | ((with_reducible refine gate_callee (f := 71) rfl ?_); refine goesL_ (some 19) rfl rfl Try.func71 z11_ rfl #[.string a1, .int .i64 2] rfl z12_ ?_; (with_reducible refine (octet_Number.calls k a1 2 t307 t308 t309 _ A3.out).mono ?_); rintro e w' ⟨rfl, ⟨nd, rfl⟩⟩; refine ⟨_, rfl, ?_⟩; (try (rw [drewN_self w9]; generalize hq_ : World.drewN w9 _ = w9; have n0_ : Aside0 (w9.heap[gb305]? = some (.cells #[.int .i64 a0_0, .slice A0_1 l0_1.length c0_1] 35 (0, 0))) := ⟨z117_⟩; have n1_ : Aside0 (w9.heap[gb306]? = some (.cells #[.int .i64 0, .slice none 0 0] 35 (0, 0))) := ⟨z118_⟩; have n2_ : Aside0 (Below w.heap.size w w9) := ⟨z119_⟩; clear BK305 BK306 HB hq_; have BK305 := n0_; have BK306 := n1_; have HB := n2_; clear n0_ n1_ n2_))) | ((with_reducible refine gate_callee (f := 71) rfl ?_); refine goesL_ (some 25) rfl rfl Try.func71 z11_ rfl #[.string t308, .int .i64 2] rfl z12_ ?_; (with_reducible refine (octet_Number.calls k t308 2 t310 t311 t312 _ A4.out).mono ?_); rintro e w' ⟨rfl, ⟨nd, rfl⟩⟩; refine ⟨_, rfl, ?_⟩; (try (rw [drewN_self w9]; generalize hq_ : World.drewN w9 _ = w9; have n0_ : Aside0 (w9.heap[gb305]? = some (.cells #[.int .i64 a0_0, .slice A0_1 l0_1.length c0_1] 35 (0, 0))) := ⟨z117_⟩; have n1_ : Aside0 (w9.heap[gb306]? = some (.cells #[.int .i64 0, .slice none 0 0] 35 (0, 0))) := ⟨z118_⟩; have n2_ : Aside0 (Below w.heap.size w w9) := ⟨z119_⟩; clear BK305 BK306 HB hq_; have BK305 := n0_; have BK306 := n1_; have HB := n2_; clear n0_ n1_ n2_)); have hnb10 := NB306_305.out; have hnc10 := NB305_306.out; have hcz11_0 := blk_cell BK306.out 0; have hcz11_1 := blk_cell BK306.out 1; have hfz11_0 := blk_frozen BK306.out 0; have hfz11_1 := blk_frozen BK306.out 1))
    refine bodyPost_ret (results_list (rs := [.cell 4 35, .tmp 5, .tmp 6, .tmp 7]) rfl (by simp) (.cell gb306 35 #[.int .i64 0, .slice none 0 0] (0, 0) _ rfl z120_ Try.underlying35 rfl z11_ (.tmp (.tmp (.tmp .nil))))) rfl ?_
    exact qpx150_
   ·rw [if_neg c7] at H
    have c7b0 : decide (t310 ≤ t307) = false := decide_eq_false c7
    clear c7
    by_cases c12 : t307 = 0
    ·rw [if_pos c12] at H
     have c12b0 : (t307 == 0) = true := beq_iff_eq.mpr c12
     have c12b1 : (t307 != 0) = false := bne_eq_false_iff_eq.mpr c12
     clear c12
     replace H := Option.bind_eq_some_iff.mp H
     obtain ⟨t313, A130, H⟩ := H
     try dsimp only at H
     have A13 := a0_ A130
     clear A130
     by_cases c14 : t313.length < 8796093022208
     ·rw [if_pos c14] at H
      have LMc14 := a0_ c14
      clear c14
      obtain ⟨y316, hy316⟩ : ∃ y_ : List ByteArray, y_ = (t313 ++ [t311]) := ⟨_, rfl⟩
      replace H : (if (y316.length : Int) < t310 then (some (t310, y316, (⟨#[]⟩ : ByteArray), false, 0)) else (seg_Feed.l0 k ([] : List Int) y316 (y316.length : Int) 0)) = some (r1, r2, r3, r4, r5) := by first | (rw [hy316]; with_reducible exact H) | (have H2_ := (Option.bind_some _ _).symm.trans H; rw [hy316]; with_reducible exact H2_) | (have H2_ := (Option.bind_some _ _).symm.trans H; with_reducible exact H2_) | with_reducible exact H | (rw [hy316]; exact H) | exact H
      have Ny316 := a0_ hy316
      clear hy316
      by_cases c15 : (y316.length : Int) < t310
      ·rw [if_pos c15] at H
       have c15b0 : decide ((y316.length : Int) < t310) = true := decide_eq_true c15
       clear c15
       simp only [Option.some.injEq, Prod.mk.injEq] at H
       obtain ⟨rfl, rfl, rfl, rfl, rfl⟩ := H
       go_enter Try.func70, Try.ntmps70
       go_wp2_with (first | ((with_reducible refine gate_dst (N := 2) rfl ?_); refine box_event ?hg (N := 2) ?hd (cs := #[.int .i64 a0_0, .slice A0_1 l0_1.length c0_1]) (t := 35) ?hr ?_; (case hd => rfl); (case hg => rfl); (case hr => exact z7_); intro gb305 hg w16 hbox hb; have n0_ := a0_ (below_step z6_ hb); have n1_ := a0_ (hbox); have n2_ := a0_ ((z8_ : w.heap.size ≤ gb305)); have n3_ := a0_ ((z8_ : w.heap.size ≤ gb305)); clear HB; have HB := n0_; have BK305 := n1_; have GW305 := n2_; have GE305 := n3_; clear n0_ n1_ n2_ n3_; clear hb hbox hg) | ((with_reducible refine gate_dst (N := 4) rfl ?_); refine box_event ?hg (N := 4) ?hd (cs := #[.int .i64 0, .slice none 0 0]) (t := 35) ?hr ?_; (case hd => rfl); (case hg => rfl); (case hr => exact z7_); intro gb306 hg w17 hbox hb; have n0_ := a0_ (blk_below z112_ hb); have n1_ := a0_ (below_step z113_ hb); have n2_ := a0_ (hbox); have n3_ := a0_ ((z114_ : w.heap.size ≤ gb306)); have n4_ := a0_ ((z114_ : w.heap.size ≤ gb306)); have n5_ := a0_ ((z115_ : gb305 ≠ gb306)); have n6_ := a0_ ((z116_ : gb306 ≠ gb305)); clear BK305; clear HB; have BK305 := n0_; have HB := n1_; have BK306 := n2_; have GW306 := n3_; have GE306 := n4_; have NB305_306 := n5_; have NB306_305 := n6_; clear n0_ n1_ n2_ n3_ n4_ n5_ n6_; clear hb hbox hg) | ((with_reducible refine gate_callee (f := 71) rfl ?_); refine goesL_ (some 19) rfl rfl Try.func71 z11_ rfl #[.string a1, .int .i64 2] rfl z12_ ?_; (with_reducible refine (octet_Number.calls k a1 2 t307 t308 t309 _ A3.out).mono ?_); rintro e w' ⟨rfl, ⟨nd, rfl⟩⟩; refine ⟨_, rfl, ?_⟩; (try (rw [drewN_self w17]; generalize hq_ : World.drewN w17 _ = w17; have n0_ : Aside0 (w17.heap[gb305]? = some (.cells #[.int .i64 a0_0, .slice A0_1 l0_1.length c0_1] 35 (0, 0))) := ⟨z117_⟩; have n1_ : Aside0 (w17.heap[gb306]? = some (.cells #[.int .i64 0, .slice none 0 0] 35 (0, 0))) := ⟨z118_⟩; have n2_ : Aside0 (Below w.heap.size w w17) := ⟨z119_⟩; clear BK305 BK306 HB hq_; have BK305 := n0_; have BK306 := n1_; have HB := n2_; clear n0_ n1_ n2_))) | ((with_reducible refine gate_callee (f := 71) rfl ?_); refine goesL_ (some 25) rfl rfl Try.func71 z11_ rfl #[.string t308, .int .i64 2] rfl z12_ ?_; (with_reducible refine (octet_Number.calls k t308 2 t310 t311 t312 _ A4.out).mono ?_); rintro e w' ⟨rfl, ⟨nd, rfl⟩⟩; refine ⟨_, rfl, ?_⟩; (try (rw [drewN_self w17]; generalize hq_ : World.drewN w17 _ = w17; have n0_ : Aside0 (w17.heap[gb305]? = some (.cells #[.int .i64 a0_0, .slice A0_1 l0_1.length c0_1] 35 (0, 0))) := ⟨z117_⟩; have n1_ : Aside0 (w17.heap[gb306]? = some (.cells #[.int .i64 0, .slice none 0 0] 35 (0, 0))) := ⟨z118_⟩; have n2_ : Aside0 (Below w.heap.size w w17) := ⟨z119_⟩; clear BK305 BK306 HB hq_; have BK305 := n0_; have BK306 := n1_; have HB := n2_; clear n0_ n1_ n2_)); have hnb18 := NB305_306.out; have hnc18 := NB306_305.out; have hcz19_0 := blk_cell BK305.out 0; have hcz19_1 := blk_cell BK305.out 1; have hfz19_0 := blk_frozen BK305.out 0; have hfz19_1 := blk_frozen BK305.out 1) | ((with_reducible refine gate_callee (f := 69) rfl ?_); refine goesL_ (some 62) rfl rfl Try.func69 z11_ rfl #[.slice none 0 0] rfl z12_ ?_; (refine (slices_Clone_string_string.calls _ _ ([] : List ByteArray) t313 _ ?side1 ?side2 A13.out).mono ?_); (case side1 => exact Kd.C_nil _ _); (case side2 => exact Nat.le_refl _); rintro e w20 ⟨v314, rfl, ho0, hb⟩; refine ⟨_, rfl, ?_⟩; have HO315 := a0_ (Kd.R_lower ho0 (below_size z111_)); replace BK305 := a0_ (blk_below (g := gb305) (o := .cells #[.int .i64 t310, .slice none 0 0] 35 (0, 0)) z121_ hb); replace BK306 := a0_ (blk_below (g := gb306) (o := .cells #[.int .i64 0, .slice none 0 0] 35 (0, 0)) z122_ hb); replace HB := a0_ (below_step z111_ hb); (try clear hb); (try clear hb2); (try clear hk); (try clear hi); (try clear ho0)) | ((with_reducible refine gate_builtin (b := .append) (xs := #[.tmp 62, .tmp 64]) rfl ?_); at_builtin; refine Kd.R_append Kd.string (w0 := w) w.heap.size rfl (.tmp 62) (.tmp 64) 24 9 (.string ⟨#[]⟩) 16 rfl Try.underlying24 info9 rfl z17_ z2_ v314 t313 t311 [.string t311] (fun _ => True) (fun _ => False) rfl rfl ?aP (fun _ hk => hk.elim) ?aF ?aO ?aB ?aS ?aL ?_; (case aP => exact z72_); (case aB => exact z123_); (case aF => exact z43_); (case aO => exact z124_); (case aS => exact z125_); (case aL => exact z45_); intro v317 w21 ho hb hg hat; rw [← Ny316.out] at ho; have n0_ := a0_ (blk_grown (g := gb305) (o := .cells #[.int .i64 t310, .slice none 0 0] 35 (0, 0)) z112_ hg (Kd.R_ne HO315.out BK305.out z17_)); have n1_ := a0_ (blk_grown (g := gb306) (o := .cells #[.int .i64 0, .slice none 0 0] 35 (0, 0)) z126_ hg (Kd.R_ne HO315.out BK306.out z17_)); have n2_ := a0_ (hb); have n3_ := a0_ (ho); clear BK305; clear BK306; clear HB; clear HO315; have BK305 := n0_; have BK306 := n1_; have HB := n2_; have HO318 := n3_; clear n0_ n1_ n2_ n3_; clear ho hb hg hat; obtain ⟨Ao22, co22, eo22⟩ := Kd.R_slice HO318.out; subst eo22; have hcz23_0 := blk_cell BK305.out 0; have hcz23_1 := blk_cell BK305.out 1; have hfz23_0 := blk_frozen BK305.out 0; have hfz23_1 := blk_frozen BK305.out 1; have hcz24_0 := blk_cell BK306.out 0; have hcz24_1 := blk_cell BK306.out 1; have hfz24_0 := blk_frozen BK306.out 0; have hfz24_1 := blk_frozen BK306.out 1))
       refine bodyPost_ret (results_list (rs := [.cell 4 35, .tmp 5, .tmp 6, .tmp 7]) rfl (by simp) (.cell gb306 35 #[.int .i64 t310, .slice Ao22 y316.length co22] (0, 0) _ rfl (by (with_reducible repeat (first | refine blk_drewN ?_ _ | refine blk_drew ?_ | refine blk_alloc ?_ _)); refine blk_put (cs := #[.int .i64 t310, .slice none 0 0]) ?_ 1 _ rfl; (with_reducible repeat (first | refine blk_drewN ?_ _ | refine blk_drew ?_ | refine blk_alloc ?_ _)); refine blk_put (cs := #[.int .i64 0, .slice none 0 0]) ?_ 0 _ rfl; (with_reducible repeat (first | refine blk_drewN ?_ _ | refine blk_drew ?_ | refine blk_alloc ?_ _)); refine blk_far ?_ NB306_305.out _; (with_reducible repeat (first | refine blk_drewN ?_ _ | refine blk_drew ?_ | refine blk_alloc ?_ _)); exact BK306.out) Try.underlying35 rfl z11_ (.tmp (.tmp (.tmp .nil))))) rfl ?_
       exact ⟨_, z3_, by (with_reducible repeat (first | apply Kd.R_alloc | apply Kd.R_drewN | apply Kd.R_drew)); exact Kd.R_mono (Kd.R_far (p := ⟨gb306, 1, none⟩) (Kd.R_far (p := ⟨gb306, 0, none⟩) (Kd.R_far (p := ⟨gb305, 1, none⟩) (Kd.R_types (Kd.R_types HO318.out BK305.out z17_) BK306.out z17_) (fun _ hk => hk.1.2) (.slice Ao22 y316.length co22)) (fun _ hk => hk.2) (.int .i64 t310)) (fun _ hk => hk.2) (.slice Ao22 y316.length co22)) (fun _ hk => trivial), z111_⟩
      ·rw [if_neg c15] at H
       have c15b0 : decide ((y316.length : Int) < t310) = false := decide_eq_false c15
       clear c15
       have H' := a0_ H
       clear H
       go_enter Try.func70, Try.ntmps70
       go_wp2_with (first | ((with_reducible refine gate_dst (N := 2) rfl ?_); refine box_event ?hg (N := 2) ?hd (cs := #[.int .i64 a0_0, .slice A0_1 l0_1.length c0_1]) (t := 35) ?hr ?_; (case hd => rfl); (case hg => rfl); (case hr => exact z7_); intro gb305 hg w25 hbox hb; have n0_ := a0_ (below_step z6_ hb); have n1_ := a0_ (hbox); have n2_ := a0_ ((z8_ : w.heap.size ≤ gb305)); have n3_ := a0_ ((z8_ : w.heap.size ≤ gb305)); clear HB; have HB := n0_; have BK305 := n1_; have GW305 := n2_; have GE305 := n3_; clear n0_ n1_ n2_ n3_; clear hb hbox hg) | ((with_reducible refine gate_dst (N := 4) rfl ?_); refine box_event ?hg (N := 4) ?hd (cs := #[.int .i64 0, .slice none 0 0]) (t := 35) ?hr ?_; (case hd => rfl); (case hg => rfl); (case hr => exact z7_); intro gb306 hg w26 hbox hb; have n0_ := a0_ (blk_below z112_ hb); have n1_ := a0_ (below_step z113_ hb); have n2_ := a0_ (hbox); have n3_ := a0_ ((z114_ : w.heap.size ≤ gb306)); have n4_ := a0_ ((z114_ : w.heap.size ≤ gb306)); have n5_ := a0_ ((z115_ : gb305 ≠ gb306)); have n6_ := a0_ ((z116_ : gb306 ≠ gb305)); clear BK305; clear HB; have BK305 := n0_; have HB := n1_; have BK306 := n2_; have GW306 := n3_; have GE306 := n4_; have NB305_306 := n5_; have NB306_305 := n6_; clear n0_ n1_ n2_ n3_ n4_ n5_ n6_; clear hb hbox hg) | ((with_reducible refine gate_callee (f := 71) rfl ?_); refine goesL_ (some 19) rfl rfl Try.func71 z11_ rfl #[.string a1, .int .i64 2] rfl z12_ ?_; (with_reducible refine (octet_Number.calls k a1 2 t307 t308 t309 _ A3.out).mono ?_); rintro e w' ⟨rfl, ⟨nd, rfl⟩⟩; refine ⟨_, rfl, ?_⟩; (try (rw [drewN_self w26]; generalize hq_ : World.drewN w26 _ = w26; have n0_ : Aside0 (w26.heap[gb305]? = some (.cells #[.int .i64 a0_0, .slice A0_1 l0_1.length c0_1] 35 (0, 0))) := ⟨z117_⟩; have n1_ : Aside0 (w26.heap[gb306]? = some (.cells #[.int .i64 0, .slice none 0 0] 35 (0, 0))) := ⟨z118_⟩; have n2_ : Aside0 (Below w.heap.size w w26) := ⟨z119_⟩; clear BK305 BK306 HB hq_; have BK305 := n0_; have BK306 := n1_; have HB := n2_; clear n0_ n1_ n2_))) | ((with_reducible refine gate_callee (f := 71) rfl ?_); refine goesL_ (some 25) rfl rfl Try.func71 z11_ rfl #[.string t308, .int .i64 2] rfl z12_ ?_; (with_reducible refine (octet_Number.calls k t308 2 t310 t311 t312 _ A4.out).mono ?_); rintro e w' ⟨rfl, ⟨nd, rfl⟩⟩; refine ⟨_, rfl, ?_⟩; (try (rw [drewN_self w26]; generalize hq_ : World.drewN w26 _ = w26; have n0_ : Aside0 (w26.heap[gb305]? = some (.cells #[.int .i64 a0_0, .slice A0_1 l0_1.length c0_1] 35 (0, 0))) := ⟨z117_⟩; have n1_ : Aside0 (w26.heap[gb306]? = some (.cells #[.int .i64 0, .slice none 0 0] 35 (0, 0))) := ⟨z118_⟩; have n2_ : Aside0 (Below w.heap.size w w26) := ⟨z119_⟩; clear BK305 BK306 HB hq_; have BK305 := n0_; have BK306 := n1_; have HB := n2_; clear n0_ n1_ n2_)); have hnb27 := NB305_306.out; have hnc27 := NB306_305.out; have hcz28_0 := blk_cell BK305.out 0; have hcz28_1 := blk_cell BK305.out 1; have hfz28_0 := blk_frozen BK305.out 0; have hfz28_1 := blk_frozen BK305.out 1) | ((with_reducible refine gate_callee (f := 69) rfl ?_); refine goesL_ (some 62) rfl rfl Try.func69 z11_ rfl #[.slice none 0 0] rfl z12_ ?_; (refine (slices_Clone_string_string.calls _ _ ([] : List ByteArray) t313 _ ?side1 ?side2 A13.out).mono ?_); (case side1 => exact Kd.C_nil _ _); (case side2 => exact Nat.le_refl _); rintro e w29 ⟨v314, rfl, ho0, hb⟩; refine ⟨_, rfl, ?_⟩; have HO315 := a0_ (Kd.R_lower ho0 (below_size z111_)); replace BK305 := a0_ (blk_below (g := gb305) (o := .cells #[.int .i64 t310, .slice none 0 0] 35 (0, 0)) z121_ hb); replace BK306 := a0_ (blk_below (g := gb306) (o := .cells #[.int .i64 0, .slice none 0 0] 35 (0, 0)) z122_ hb); replace HB := a0_ (below_step z111_ hb); (try clear hb); (try clear hb2); (try clear hk); (try clear hi); (try clear ho0)) | ((with_reducible refine gate_builtin (b := .append) (xs := #[.tmp 62, .tmp 64]) rfl ?_); at_builtin; refine Kd.R_append Kd.string (w0 := w) w.heap.size rfl (.tmp 62) (.tmp 64) 24 9 (.string ⟨#[]⟩) 16 rfl Try.underlying24 info9 rfl z17_ z2_ v314 t313 t311 [.string t311] (fun _ => True) (fun _ => False) rfl rfl ?aP (fun _ hk => hk.elim) ?aF ?aO ?aB ?aS ?aL ?_; (case aP => exact z72_); (case aB => exact z123_); (case aF => exact z43_); (case aO => exact z124_); (case aS => exact z125_); (case aL => exact z45_); intro v317 w30 ho hb hg hat; rw [← Ny316.out] at ho; have n0_ := a0_ (blk_grown (g := gb305) (o := .cells #[.int .i64 t310, .slice none 0 0] 35 (0, 0)) z112_ hg (Kd.R_ne HO315.out BK305.out z17_)); have n1_ := a0_ (blk_grown (g := gb306) (o := .cells #[.int .i64 0, .slice none 0 0] 35 (0, 0)) z126_ hg (Kd.R_ne HO315.out BK306.out z17_)); have n2_ := a0_ (hb); have n3_ := a0_ (ho); clear BK305; clear BK306; clear HB; clear HO315; have BK305 := n0_; have BK306 := n1_; have HB := n2_; have HO318 := n3_; clear n0_ n1_ n2_ n3_; clear ho hb hg hat; obtain ⟨Ao31, co31, eo31⟩ := Kd.R_slice HO318.out; subst eo31; have hcz32_0 := blk_cell BK305.out 0; have hcz32_1 := blk_cell BK305.out 1; have hfz32_0 := blk_frozen BK305.out 0; have hfz32_1 := blk_frozen BK305.out 1))
       go_loopg [14, 76] k (fun kq v14 v76 w' => ∃ (x14_1 : List Int) (x76_1 : Int), v76 = .int .i64 x76_1 ∧ Aside0 (seg_Feed.l0 kq x14_1 y316 (y316.length : Int) x76_1 = some (r1, r2, r3, r4, r5)) ∧ Aside0 (kq ≤ k) ∧ Aside0 (Kd.R (Kd.int .u8) 5 w' w.heap.size (fun _ => True) v14 x14_1) ∧ Aside0 (Kd.R Kd.string 9 w' w.heap.size (fun _ => True) (.slice Ao31 y316.length co31) y316) ∧ Aside0 (Kd.R Kd.string 9 w' w.heap.size (fun _ => True) (.slice Ao31 y316.length co31) y316) ∧ Aside0 (w'.heap[gb305]? = some (.cells #[.int .i64 t310, (.slice Ao31 y316.length co31)] 35 (0, 0))) ∧ Aside0 (w'.heap[gb306]? = some (.cells #[.int .i64 0, (.slice none 0 0)] 35 (0, 0))) ∧ Aside0 (Below w.heap.size w w'))
       case atStart => exact ⟨(([] : List Int)), (0), z9_, H', ⟨Nat.le_refl _⟩, ⟨z15_⟩, ⟨z127_⟩, ⟨z127_⟩, ⟨by (with_reducible repeat (first | refine blk_drewN ?_ _ | refine blk_drew ?_ | refine blk_alloc ?_ _)); refine blk_put (cs := #[.int .i64 t310, .slice none 0 0]) ?_ 1 _ rfl; (with_reducible repeat (first | refine blk_drewN ?_ _ | refine blk_drew ?_ | refine blk_alloc ?_ _)); exact BK305.out⟩, ⟨z128_⟩, ⟨z111_⟩⟩
       case round =>
        clear H'
        obtain ⟨x14_1, x76_1, rfl, HA, HK1, HO_14, HO_74, HO_306001, BK305, BK306, HB⟩ := hrel
        cases gk with
        | zero => exact absurd HA.out (by simp [seg_Feed.l0])
        | succ k1 =>
         have H := HA.out
         clear HA
         simp only [seg_Feed.l0] at H
         by_cases c33 : x76_1 < (y316.length : Int)
         ·rw [if_pos c33] at H
          have c33b0 : decide (x76_1 < (y316.length : Int)) = true := decide_eq_true c33
          clear c33
          by_cases c34 : 0 ≤ x76_1
          ·rw [if_pos c34] at H
           have c34b0 : decide (0 ≤ x76_1) = true := decide_eq_true c34
           clear c34
           by_cases c35 : x76_1 < (y316.length : Int)
           ·rw [if_pos c35] at H
            have c35b0 : decide (x76_1 < (y316.length : Int)) = true := decide_eq_true c35
            clear c35
            by_cases c36 : x14_1.length + (rdOf ByteArray.empty y316 x76_1).size < 150000000000000
            ·rw [if_pos c36] at H
             have LMc36 := a0_ c36
             clear c36
             obtain ⟨y320, hy320⟩ : ∃ y_ : List Int, y_ = (x14_1 ++ bytesOf (rdOf ByteArray.empty y316 x76_1)) := ⟨_, rfl⟩
             replace H : (seg_Feed.l0 k1 y320 y316 (y316.length : Int) (wrap64 (x76_1 + 1))) = some (r1, r2, r3, r4, r5) := by first | (rw [hy320]; with_reducible exact H) | (have H2_ := (Option.bind_some _ _).symm.trans H; rw [hy320]; with_reducible exact H2_) | (have H2_ := (Option.bind_some _ _).symm.trans H; with_reducible exact H2_) | with_reducible exact H | (rw [hy320]; exact H) | exact H
             have Ny320 := a0_ hy320
             clear hy320
             have H' := a0_ H
             clear H
             have p319 : 0 ≤ (x76_1 : Int) := of_decide_eq_true z19_
             have q319 : x76_1 < (y316.length : Int) := of_decide_eq_true z19_
             obtain ⟨ad319, e319, hx319_0⟩ := Kd.at_string (Kd.R_reads' HO_74.out).2.2 x76_1 p319 q319
             cases e319
             replace p319 := eq_true p319
             replace q319 := eq_true q319
             go_wp2_with (first | (at_builtin; refine print_append_big (w0 := w) w.heap.size rfl (.tmp 80) _ 111 9 5 rfl Try.underlying111 Try.underlying9 info5 u14 x14_1 (rdOf ByteArray.empty y316 x76_1) rfl rfl ?aO ?aB ?aS ?aL ?_; (case aB => exact z123_); (case aO => exact z129_); (case aS => exact z125_); (case aL => have := LMc36.out; omega); intro v321 w37 ho0 hb hg; have ho := Kd.R_of_own (h1 := fun _ => rfl) (ok := fun _ => True) ho0 (fun _ _ => trivial); clear ho0; have hat := True.intro; rw [← Ny320.out] at ho; change Kd.R (Kd.int .u8) 5 w37 w.heap.size (fun _ => True) v321 y320 at ho; have n0_ := a0_ (Kd.R_over' z130_ (Kd.R_typed z131_) z17_ hg); have n1_ := a0_ (Kd.R_over' z132_ (Kd.R_typed z131_) z17_ hg); have n2_ := a0_ (blk_grown (g := gb305) (o := .cells #[.int .i64 t310, .slice (some ad319) y316.length co31] 35 (0, 0)) z112_ hg (Kd.R_ne HO_14.out BK305.out z17_)); have n3_ := a0_ (blk_grown (g := gb306) (o := .cells #[.int .i64 0, .slice none 0 0] 35 (0, 0)) z126_ hg (Kd.R_ne HO_14.out BK306.out z17_)); have n4_ := a0_ (hb); have n5_ := a0_ (ho); clear HO_74; clear HO_306001; clear BK305; clear BK306; clear HB; clear HO_14; have HO_74 := n0_; have HO_306001 := n1_; have BK305 := n2_; have BK306 := n3_; have HB := n4_; have HO322 := n5_; clear n0_ n1_ n2_ n3_ n4_ n5_; clear ho hb hg hat))
             go_roundg k1
             case measure => have := HK1.out; omega
             case rel => exact ⟨(y320), (wrap64 (x76_1 + 1)), z9_, H', ⟨z21_⟩, ⟨z133_⟩, ⟨z130_⟩, ⟨z132_⟩, ⟨z112_⟩, ⟨z126_⟩, ⟨z111_⟩⟩
            ·rw [if_neg c36] at H
             exact absurd H (by simp)
           ·rw [if_neg c35] at H
            exact absurd H (by simp)
          ·rw [if_neg c34] at H
           exact absurd H (by simp)
         ·rw [if_neg c33] at H
          have c33b0 : decide (x76_1 < (y316.length : Int)) = false := decide_eq_false c33
          clear c33
          simp only [Option.some.injEq, Prod.mk.injEq] at H
          obtain ⟨rfl, rfl, rfl, rfl, rfl⟩ := H
          try go_wp2
          have n0_ := a0_ (Kd.R_drew HO_14.out)
          have n1_ := a0_ (Kd.R_drew HO_74.out)
          have n2_ := a0_ (Kd.R_drew HO_306001.out)
          have n3_ := a0_ (blk_drew BK305.out)
          have n4_ := a0_ (blk_drew BK306.out)
          have n5_ := a0_ (below_drew1 HB.out)
          clear HO_14
          clear HO_74
          clear HO_306001
          clear BK305
          clear BK306
          clear HB
          have HO_14 := n0_
          have HO_74 := n1_
          have HO_306001 := n2_
          have BK305 := n3_
          have BK306 := n4_
          have HB := n5_
          clear n0_ n1_ n2_ n3_ n4_ n5_
          have hcv39 := own_string (P := Try.prog) Try.underlying111 Try.underlying5 Try.underlying9 (Kd.own_of_R HO_14.out)
          refine st_ 7 (S := fun w' => (convert 111 _ _).run Try.prog w' = .ok (.string (strOfNums _)) w') (ds := []) hcv39 (fun hHeld => ?_)
          generalize wr.drew = w38 at HO_14 HO_74 HO_306001 BK305 BK306 HB hHeld ⊢
          refine pu_ 0 (some 84) rfl rfl ?_
          refine pu_ 1 (some 85) rfl rfl ?_
          refine take_ (i := 2) (N := some 86) (v := ?_) (a' := ?_) #[true, true, true, false, false, false, false] rfl rfl z11_ (fun _ _ _ h => h) (Or.inl ⟨by rfl, ?_⟩) hHeld ?_ ?_
          rotate_left
          ·intro w' s0
           go_simp
           with_reducible rfl
          rotate_left
          ·exact put_
          refine on_ 3 (none) rfl rfl (fun K hK => ?_)
          have hs40 := blk_cell BK306.out 0
          have hfs40 := blk_frozen BK306.out 0
          have hns40_0 := NB305_306.out
          have hms40_0 := NB306_305.out
          have hs41 := blk_cell BK306.out 1
          have hfs41 := blk_frozen BK306.out 1
          have hns41_0 := NB305_306.out
          have hms41_0 := NB306_305.out
          refine skip_ (w1 := ?_) (by rfl) rfl ?_ ?_
          rotate_left
          ·go_simp
           rfl
          refine hK.out _ _ (own_string Try.underlying111 Try.underlying5 Try.underlying9 (Kd.own_of_R (Kd.R_far (Kd.R_far (Kd.R_types HO_14.out BK306.out (by simp [Kd.int, Kd.scalar])) (fun _ hk => hk.2) _) (fun _ hk => hk.2) _))) (fun hHeld => ?_)
          have BKZ := a0_ (blk_put (cs' := #[.int .i64 0, .slice none 0 0]) (blk_put (cs' := #[.int .i64 0, .slice none 0 0]) BK306.out 0 (.int .i64 0) rfl) 1 (.slice none 0 0) rfl)
          clear BK306
          have BK306 := BKZ
          clear hK K
          refine pu_ 4 (some 5) rfl rfl ?_
          refine pu_ 5 (some 6) rfl rfl ?_
          refine pu_ 6 (some 7) rfl rfl ?_
          refine done_ z11_ ?_
          try go_wp2
          refine bodyPost_ret (results_list (rs := [.cell 4 35, .tmp 5, .tmp 6, .tmp 7]) rfl (by simp) (.cell gb306 35 #[.int .i64 0, .slice none 0 0] (0, 0) _ rfl z126_ Try.underlying35 rfl z11_ (.tmp (.tmp (.tmp .nil))))) rfl ?_
          exact qpx150_
     ·rw [if_neg c14] at H
      exact absurd H (by simp)
    ·rw [if_neg c12] at H
     have c12b0 : (t307 == 0) = false := beq_eq_false_iff_ne.mpr c12
     have c12b1 : (t307 != 0) = true := bne_iff_ne.mpr c12
     by_cases c43 : t307 = (l0_1.length : Int)
     ·rw [if_pos c43] at H
      have c43b0 : (t307 == (l0_1.length : Int)) = true := beq_iff_eq.mpr c43
      have c43b1 : (t307 != (l0_1.length : Int)) = false := bne_eq_false_iff_eq.mpr c43
      clear c43
      by_cases c44 : t310 = a0_0
      ·rw [if_pos c44] at H
       have c44b0 : (t310 == a0_0) = true := beq_iff_eq.mpr c44
       have c44b1 : (t310 != a0_0) = false := bne_eq_false_iff_eq.mpr c44
       clear c44
       replace H := Option.bind_eq_some_iff.mp H
       obtain ⟨t323, A450, H⟩ := H
       try dsimp only at H
       have A45 := a0_ A450
       clear A450
       by_cases c46 : t323.length < 8796093022208
       ·rw [if_pos c46] at H
        have LMc46 := a0_ c46
        clear c46
        obtain ⟨y326, hy326⟩ : ∃ y_ : List ByteArray, y_ = (t323 ++ [t311]) := ⟨_, rfl⟩
        replace H : (if (y326.length : Int) < t310 then (some (a0_0, y326, (⟨#[]⟩ : ByteArray), false, 0)) else (seg_Feed.l0 k ([] : List Int) y326 (y326.length : Int) 0)) = some (r1, r2, r3, r4, r5) := by first | (rw [hy326]; with_reducible exact H) | (have H2_ := (Option.bind_some _ _).symm.trans H; rw [hy326]; with_reducible exact H2_) | (have H2_ := (Option.bind_some _ _).symm.trans H; with_reducible exact H2_) | with_reducible exact H | (rw [hy326]; exact H) | exact H
        have Ny326 := a0_ hy326
        clear hy326
        by_cases c47 : (y326.length : Int) < t310
        ·rw [if_pos c47] at H
         have c47b0 : decide ((y326.length : Int) < t310) = true := decide_eq_true c47
         clear c47
         simp only [Option.some.injEq, Prod.mk.injEq] at H
         obtain ⟨rfl, rfl, rfl, rfl, rfl⟩ := H
         go_enter Try.func70, Try.ntmps70
         go_wp2_with (first | ((with_reducible refine gate_dst (N := 2) rfl ?_); refine box_event ?hg (N := 2) ?hd (cs := #[.int .i64 a0_0, .slice A0_1 l0_1.length c0_1]) (t := 35) ?hr ?_; (case hd => rfl); (case hg => rfl); (case hr => exact z7_); intro gb305 hg w48 hbox hb; have n0_ := a0_ (below_step z6_ hb); have n1_ := a0_ (hbox); have n2_ := a0_ ((z8_ : w.heap.size ≤ gb305)); have n3_ := a0_ ((z8_ : w.heap.size ≤ gb305)); clear HB; have HB := n0_; have BK305 := n1_; have GW305 := n2_; have GE305 := n3_; clear n0_ n1_ n2_ n3_; clear hb hbox hg) | ((with_reducible refine gate_dst (N := 4) rfl ?_); refine box_event ?hg (N := 4) ?hd (cs := #[.int .i64 0, .slice none 0 0]) (t := 35) ?hr ?_; (case hd => rfl); (case hg => rfl); (case hr => exact z7_); intro gb306 hg w49 hbox hb; have n0_ := a0_ (blk_below z112_ hb); have n1_ := a0_ (below_step z113_ hb); have n2_ := a0_ (hbox); have n3_ := a0_ ((z114_ : w.heap.size ≤ gb306)); have n4_ := a0_ ((z114_ : w.heap.size ≤ gb306)); have n5_ := a0_ ((z115_ : gb305 ≠ gb306)); have n6_ := a0_ ((z116_ : gb306 ≠ gb305)); clear BK305; clear HB; have BK305 := n0_; have HB := n1_; have BK306 := n2_; have GW306 := n3_; have GE306 := n4_; have NB305_306 := n5_; have NB306_305 := n6_; clear n0_ n1_ n2_ n3_ n4_ n5_ n6_; clear hb hbox hg) | ((with_reducible refine gate_callee (f := 71) rfl ?_); refine goesL_ (some 19) rfl rfl Try.func71 z11_ rfl #[.string a1, .int .i64 2] rfl z12_ ?_; (with_reducible refine (octet_Number.calls k a1 2 t307 t308 t309 _ A3.out).mono ?_); rintro e w' ⟨rfl, ⟨nd, rfl⟩⟩; refine ⟨_, rfl, ?_⟩; (try (rw [drewN_self w49]; generalize hq_ : World.drewN w49 _ = w49; have n0_ : Aside0 (w49.heap[gb305]? = some (.cells #[.int .i64 a0_0, .slice A0_1 l0_1.length c0_1] 35 (0, 0))) := ⟨z117_⟩; have n1_ : Aside0 (w49.heap[gb306]? = some (.cells #[.int .i64 0, .slice none 0 0] 35 (0, 0))) := ⟨z118_⟩; have n2_ : Aside0 (Below w.heap.size w w49) := ⟨z119_⟩; clear BK305 BK306 HB hq_; have BK305 := n0_; have BK306 := n1_; have HB := n2_; clear n0_ n1_ n2_))) | ((with_reducible refine gate_callee (f := 71) rfl ?_); refine goesL_ (some 25) rfl rfl Try.func71 z11_ rfl #[.string t308, .int .i64 2] rfl z12_ ?_; (with_reducible refine (octet_Number.calls k t308 2 t310 t311 t312 _ A4.out).mono ?_); rintro e w' ⟨rfl, ⟨nd, rfl⟩⟩; refine ⟨_, rfl, ?_⟩; (try (rw [drewN_self w49]; generalize hq_ : World.drewN w49 _ = w49; have n0_ : Aside0 (w49.heap[gb305]? = some (.cells #[.int .i64 a0_0, .slice A0_1 l0_1.length c0_1] 35 (0, 0))) := ⟨z117_⟩; have n1_ : Aside0 (w49.heap[gb306]? = some (.cells #[.int .i64 0, .slice none 0 0] 35 (0, 0))) := ⟨z118_⟩; have n2_ : Aside0 (Below w.heap.size w w49) := ⟨z119_⟩; clear BK305 BK306 HB hq_; have BK305 := n0_; have BK306 := n1_; have HB := n2_; clear n0_ n1_ n2_)); have hnb50 := NB305_306.out; have hnc50 := NB306_305.out; have hcz51_0 := blk_cell BK305.out 0; have hcz51_1 := blk_cell BK305.out 1; have hfz51_0 := blk_frozen BK305.out 0; have hfz51_1 := blk_frozen BK305.out 1) | ((with_reducible refine gate_callee (f := 69) rfl ?_); refine goesL_ (some 62) rfl rfl Try.func69 z11_ rfl #[.slice A0_1 l0_1.length c0_1] rfl z12_ ?_; (with_reducible refine (slices_Clone_string_string.calls _ _ l0_1 t323 _ ?side1 ?side2 A45.out).mono ?_); (case side1 => exact z134_); (case side2 => exact HC0_1.out); rintro e w52 ⟨v324, rfl, ho0, hb⟩; refine ⟨_, rfl, ?_⟩; have HO325 := a0_ (Kd.R_lower ho0 (below_size z111_)); replace BK305 := a0_ (blk_below z112_ hb); replace BK306 := a0_ (blk_below z126_ hb); replace HB := a0_ (below_step z111_ hb); (try clear hb); (try clear hb2); (try clear hk); (try clear hi); (try clear ho0)) | ((with_reducible refine gate_builtin (b := .append) (xs := #[.tmp 62, .tmp 64]) rfl ?_); at_builtin; refine Kd.R_append Kd.string (w0 := w) w.heap.size rfl (.tmp 62) (.tmp 64) 24 9 (.string ⟨#[]⟩) 16 rfl Try.underlying24 info9 rfl z17_ z2_ v324 t323 t311 [.string t311] (fun _ => True) (fun _ => False) rfl rfl ?aP (fun _ hk => hk.elim) ?aF ?aO ?aB ?aS ?aL ?_; (case aP => exact z72_); (case aB => exact z123_); (case aF => exact z43_); (case aO => exact z135_); (case aS => exact z125_); (case aL => have := LMc46.out; omega); intro v327 w53 ho hb hg hat; rw [← Ny326.out] at ho; have n0_ := a0_ (blk_grown (g := gb305) (o := .cells #[.int .i64 a0_0, .slice A0_1 l0_1.length c0_1] 35 (0, 0)) z112_ hg (Kd.R_ne HO325.out BK305.out z17_)); have n1_ := a0_ (blk_grown (g := gb306) (o := .cells #[.int .i64 0, .slice none 0 0] 35 (0, 0)) z126_ hg (Kd.R_ne HO325.out BK306.out z17_)); have n2_ := a0_ (hb); have n3_ := a0_ (ho); clear BK305; clear BK306; clear HB; clear HO325; have BK305 := n0_; have BK306 := n1_; have HB := n2_; have HO328 := n3_; clear n0_ n1_ n2_ n3_; clear ho hb hg hat; obtain ⟨Ao54, co54, eo54⟩ := Kd.R_slice HO328.out; subst eo54; have hcz55_0 := blk_cell BK305.out 0; have hcz55_1 := blk_cell BK305.out 1; have hfz55_0 := blk_frozen BK305.out 0; have hfz55_1 := blk_frozen BK305.out 1; have hcz56_0 := blk_cell BK306.out 0; have hcz56_1 := blk_cell BK306.out 1; have hfz56_0 := blk_frozen BK306.out 0; have hfz56_1 := blk_frozen BK306.out 1))
         refine bodyPost_ret (results_list (rs := [.cell 4 35, .tmp 5, .tmp 6, .tmp 7]) rfl (by simp) (.cell gb306 35 #[.int .i64 a0_0, .slice Ao54 y326.length co54] (0, 0) _ rfl (by (with_reducible repeat (first | refine blk_drewN ?_ _ | refine blk_drew ?_ | refine blk_alloc ?_ _)); refine blk_put (cs := #[.int .i64 a0_0, .slice none 0 0]) ?_ 1 _ rfl; (with_reducible repeat (first | refine blk_drewN ?_ _ | refine blk_drew ?_ | refine blk_alloc ?_ _)); refine blk_put (cs := #[.int .i64 0, .slice none 0 0]) ?_ 0 _ rfl; (with_reducible repeat (first | refine blk_drewN ?_ _ | refine blk_drew ?_ | refine blk_alloc ?_ _)); refine blk_far ?_ NB306_305.out _; (with_reducible repeat (first | refine blk_drewN ?_ _ | refine blk_drew ?_ | refine blk_alloc ?_ _)); exact BK306.out) Try.underlying35 rfl z11_ (.tmp (.tmp (.tmp .nil))))) rfl ?_
         exact ⟨_, z3_, by (with_reducible repeat (first | apply Kd.R_alloc | apply Kd.R_drewN | apply Kd.R_drew)); exact Kd.R_mono (Kd.R_far (p := ⟨gb306, 1, none⟩) (Kd.R_far (p := ⟨gb306, 0, none⟩) (Kd.R_far (p := ⟨gb305, 1, none⟩) (Kd.R_types (Kd.R_types HO328.out BK305.out z17_) BK306.out z17_) (fun _ hk => hk.1.2) (.slice Ao54 y326.length co54)) (fun _ hk => hk.2) (.int .i64 a0_0)) (fun _ hk => hk.2) (.slice Ao54 y326.length co54)) (fun _ hk => trivial), z111_⟩
        ·rw [if_neg c47] at H
         have c47b0 : decide ((y326.length : Int) < t310) = false := decide_eq_false c47
         clear c47
         have H' := a0_ H
         clear H
         go_enter Try.func70, Try.ntmps70
         go_wp2_with (first | ((with_reducible refine gate_dst (N := 2) rfl ?_); refine box_event ?hg (N := 2) ?hd (cs := #[.int .i64 a0_0, .slice A0_1 l0_1.length c0_1]) (t := 35) ?hr ?_; (case hd => rfl); (case hg => rfl); (case hr => exact z7_); intro gb305 hg w57 hbox hb; have n0_ := a0_ (below_step z6_ hb); have n1_ := a0_ (hbox); have n2_ := a0_ ((z8_ : w.heap.size ≤ gb305)); have n3_ := a0_ ((z8_ : w.heap.size ≤ gb305)); clear HB; have HB := n0_; have BK305 := n1_; have GW305 := n2_; have GE305 := n3_; clear n0_ n1_ n2_ n3_; clear hb hbox hg) | ((with_reducible refine gate_dst (N := 4) rfl ?_); refine box_event ?hg (N := 4) ?hd (cs := #[.int .i64 0, .slice none 0 0]) (t := 35) ?hr ?_; (case hd => rfl); (case hg => rfl); (case hr => exact z7_); intro gb306 hg w58 hbox hb; have n0_ := a0_ (blk_below z112_ hb); have n1_ := a0_ (below_step z113_ hb); have n2_ := a0_ (hbox); have n3_ := a0_ ((z114_ : w.heap.size ≤ gb306)); have n4_ := a0_ ((z114_ : w.heap.size ≤ gb306)); have n5_ := a0_ ((z115_ : gb305 ≠ gb306)); have n6_ := a0_ ((z116_ : gb306 ≠ gb305)); clear BK305; clear HB; have BK305 := n0_; have HB := n1_; have BK306 := n2_; have GW306 := n3_; have GE306 := n4_; have NB305_306 := n5_; have NB306_305 := n6_; clear n0_ n1_ n2_ n3_ n4_ n5_ n6_; clear hb hbox hg) | ((with_reducible refine gate_callee (f := 71) rfl ?_); refine goesL_ (some 19) rfl rfl Try.func71 z11_ rfl #[.string a1, .int .i64 2] rfl z12_ ?_; (with_reducible refine (octet_Number.calls k a1 2 t307 t308 t309 _ A3.out).mono ?_); rintro e w' ⟨rfl, ⟨nd, rfl⟩⟩; refine ⟨_, rfl, ?_⟩; (try (rw [drewN_self w58]; generalize hq_ : World.drewN w58 _ = w58; have n0_ : Aside0 (w58.heap[gb305]? = some (.cells #[.int .i64 a0_0, .slice A0_1 l0_1.length c0_1] 35 (0, 0))) := ⟨z117_⟩; have n1_ : Aside0 (w58.heap[gb306]? = some (.cells #[.int .i64 0, .slice none 0 0] 35 (0, 0))) := ⟨z118_⟩; have n2_ : Aside0 (Below w.heap.size w w58) := ⟨z119_⟩; clear BK305 BK306 HB hq_; have BK305 := n0_; have BK306 := n1_; have HB := n2_; clear n0_ n1_ n2_))) | ((with_reducible refine gate_callee (f := 71) rfl ?_); refine goesL_ (some 25) rfl rfl Try.func71 z11_ rfl #[.string t308, .int .i64 2] rfl z12_ ?_; (with_reducible refine (octet_Number.calls k t308 2 t310 t311 t312 _ A4.out).mono ?_); rintro e w' ⟨rfl, ⟨nd, rfl⟩⟩; refine ⟨_, rfl, ?_⟩; (try (rw [drewN_self w58]; generalize hq_ : World.drewN w58 _ = w58; have n0_ : Aside0 (w58.heap[gb305]? = some (.cells #[.int .i64 a0_0, .slice A0_1 l0_1.length c0_1] 35 (0, 0))) := ⟨z117_⟩; have n1_ : Aside0 (w58.heap[gb306]? = some (.cells #[.int .i64 0, .slice none 0 0] 35 (0, 0))) := ⟨z118_⟩; have n2_ : Aside0 (Below w.heap.size w w58) := ⟨z119_⟩; clear BK305 BK306 HB hq_; have BK305 := n0_; have BK306 := n1_; have HB := n2_; clear n0_ n1_ n2_)); have hnb59 := NB305_306.out; have hnc59 := NB306_305.out; have hcz60_0 := blk_cell BK305.out 0; have hcz60_1 := blk_cell BK305.out 1; have hfz60_0 := blk_frozen BK305.out 0; have hfz60_1 := blk_frozen BK305.out 1) | ((with_reducible refine gate_callee (f := 69) rfl ?_); refine goesL_ (some 62) rfl rfl Try.func69 z11_ rfl #[.slice A0_1 l0_1.length c0_1] rfl z12_ ?_; (with_reducible refine (slices_Clone_string_string.calls _ _ l0_1 t323 _ ?side1 ?side2 A45.out).mono ?_); (case side1 => exact z134_); (case side2 => exact HC0_1.out); rintro e w61 ⟨v324, rfl, ho0, hb⟩; refine ⟨_, rfl, ?_⟩; have HO325 := a0_ (Kd.R_lower ho0 (below_size z111_)); replace BK305 := a0_ (blk_below z112_ hb); replace BK306 := a0_ (blk_below z126_ hb); replace HB := a0_ (below_step z111_ hb); (try clear hb); (try clear hb2); (try clear hk); (try clear hi); (try clear ho0)) | ((with_reducible refine gate_builtin (b := .append) (xs := #[.tmp 62, .tmp 64]) rfl ?_); at_builtin; refine Kd.R_append Kd.string (w0 := w) w.heap.size rfl (.tmp 62) (.tmp 64) 24 9 (.string ⟨#[]⟩) 16 rfl Try.underlying24 info9 rfl z17_ z2_ v324 t323 t311 [.string t311] (fun _ => True) (fun _ => False) rfl rfl ?aP (fun _ hk => hk.elim) ?aF ?aO ?aB ?aS ?aL ?_; (case aP => exact z72_); (case aB => exact z123_); (case aF => exact z43_); (case aO => exact z135_); (case aS => exact z125_); (case aL => have := LMc46.out; omega); intro v327 w62 ho hb hg hat; rw [← Ny326.out] at ho; have n0_ := a0_ (blk_grown (g := gb305) (o := .cells #[.int .i64 a0_0, .slice A0_1 l0_1.length c0_1] 35 (0, 0)) z112_ hg (Kd.R_ne HO325.out BK305.out z17_)); have n1_ := a0_ (blk_grown (g := gb306) (o := .cells #[.int .i64 0, .slice none 0 0] 35 (0, 0)) z126_ hg (Kd.R_ne HO325.out BK306.out z17_)); have n2_ := a0_ (hb); have n3_ := a0_ (ho); clear BK305; clear BK306; clear HB; clear HO325; have BK305 := n0_; have BK306 := n1_; have HB := n2_; have HO328 := n3_; clear n0_ n1_ n2_ n3_; clear ho hb hg hat; obtain ⟨Ao63, co63, eo63⟩ := Kd.R_slice HO328.out; subst eo63; have hcz64_0 := blk_cell BK305.out 0; have hcz64_1 := blk_cell BK305.out 1; have hfz64_0 := blk_frozen BK305.out 0; have hfz64_1 := blk_frozen BK305.out 1))
         go_loopg [14, 76] k (fun kq v14 v76 w' => ∃ (x14_1 : List Int) (x76_1 : Int), v76 = .int .i64 x76_1 ∧ Aside0 (seg_Feed.l0 kq x14_1 y326 (y326.length : Int) x76_1 = some (r1, r2, r3, r4, r5)) ∧ Aside0 (kq ≤ k) ∧ Aside0 (Kd.R (Kd.int .u8) 5 w' w.heap.size (fun _ => True) v14 x14_1) ∧ Aside0 (Kd.R Kd.string 9 w' w.heap.size (fun _ => True) (.slice Ao63 y326.length co63) y326) ∧ Aside0 (Kd.R Kd.string 9 w' w.heap.size (fun _ => True) (.slice Ao63 y326.length co63) y326) ∧ Aside0 (w'.heap[gb305]? = some (.cells #[.int .i64 a0_0, (.slice Ao63 y326.length co63)] 35 (0, 0))) ∧ Aside0 (w'.heap[gb306]? = some (.cells #[.int .i64 0, (.slice none 0 0)] 35 (0, 0))) ∧ Aside0 (Below w.heap.size w w'))
         case atStart => exact ⟨(([] : List Int)), (0), z9_, H', ⟨Nat.le_refl _⟩, ⟨z15_⟩, ⟨z136_⟩, ⟨z136_⟩, ⟨by (with_reducible repeat (first | refine blk_drewN ?_ _ | refine blk_drew ?_ | refine blk_alloc ?_ _)); refine blk_put (cs := #[.int .i64 a0_0, .slice A0_1 l0_1.length c0_1]) ?_ 1 _ rfl; (with_reducible repeat (first | refine blk_drewN ?_ _ | refine blk_drew ?_ | refine blk_alloc ?_ _)); exact BK305.out⟩, ⟨z128_⟩, ⟨z111_⟩⟩
         case round =>
          clear H'
          obtain ⟨x14_1, x76_1, rfl, HA, HK1, HO_14, HO_74, HO_306001, BK305, BK306, HB⟩ := hrel
          cases gk with
          | zero => exact absurd HA.out (by simp [seg_Feed.l0])
          | succ k1 =>
           have H := HA.out
           clear HA
           simp only [seg_Feed.l0] at H
           by_cases c65 : x76_1 < (y326.length : Int)
           ·rw [if_pos c65] at H
            have c65b0 : decide (x76_1 < (y326.length : Int)) = true := decide_eq_true c65
            clear c65
            by_cases c66 : 0 ≤ x76_1
            ·rw [if_pos c66] at H
             have c66b0 : decide (0 ≤ x76_1) = true := decide_eq_true c66
             clear c66
             by_cases c67 : x76_1 < (y326.length : Int)
             ·rw [if_pos c67] at H
              have c67b0 : decide (x76_1 < (y326.length : Int)) = true := decide_eq_true c67
              clear c67
              by_cases c68 : x14_1.length + (rdOf ByteArray.empty y326 x76_1).size < 150000000000000
              ·rw [if_pos c68] at H
               have LMc68 := a0_ c68
               clear c68
               obtain ⟨y320, hy320⟩ : ∃ y_ : List Int, y_ = (x14_1 ++ bytesOf (rdOf ByteArray.empty y326 x76_1)) := ⟨_, rfl⟩
               replace H : (seg_Feed.l0 k1 y320 y326 (y326.length : Int) (wrap64 (x76_1 + 1))) = some (r1, r2, r3, r4, r5) := by first | (rw [hy320]; with_reducible exact H) | (have H2_ := (Option.bind_some _ _).symm.trans H; rw [hy320]; with_reducible exact H2_) | (have H2_ := (Option.bind_some _ _).symm.trans H; with_reducible exact H2_) | with_reducible exact H | (rw [hy320]; exact H) | exact H
               have Ny320 := a0_ hy320
               clear hy320
               have H' := a0_ H
               clear H
               have p319 : 0 ≤ (x76_1 : Int) := of_decide_eq_true z19_
               have q319 : x76_1 < (y326.length : Int) := of_decide_eq_true z19_
               obtain ⟨ad319, e319, hx319_0⟩ := Kd.at_string (Kd.R_reads' HO_74.out).2.2 x76_1 p319 q319
               cases e319
               replace p319 := eq_true p319
               replace q319 := eq_true q319
               go_wp2_with (first | (at_builtin; refine print_append_big (w0 := w) w.heap.size rfl (.tmp 80) _ 111 9 5 rfl Try.underlying111 Try.underlying9 info5 u14 x14_1 (rdOf ByteArray.empty y326 x76_1) rfl rfl ?aO ?aB ?aS ?aL ?_; (case aB => exact z123_); (case aO => exact z129_); (case aS => exact z125_); (case aL => have := LMc68.out; omega); intro v321 w69 ho0 hb hg; have ho := Kd.R_of_own (h1 := fun _ => rfl) (ok := fun _ => True) ho0 (fun _ _ => trivial); clear ho0; have hat := True.intro; rw [← Ny320.out] at ho; change Kd.R (Kd.int .u8) 5 w69 w.heap.size (fun _ => True) v321 y320 at ho; have n0_ := a0_ (Kd.R_over' z130_ (Kd.R_typed z131_) z17_ hg); have n1_ := a0_ (Kd.R_over' z132_ (Kd.R_typed z131_) z17_ hg); have n2_ := a0_ (blk_grown (g := gb305) (o := .cells #[.int .i64 a0_0, .slice (some ad319) y326.length co63] 35 (0, 0)) z112_ hg (Kd.R_ne HO_14.out BK305.out z17_)); have n3_ := a0_ (blk_grown (g := gb306) (o := .cells #[.int .i64 0, .slice none 0 0] 35 (0, 0)) z126_ hg (Kd.R_ne HO_14.out BK306.out z17_)); have n4_ := a0_ (hb); have n5_ := a0_ (ho); clear HO_74; clear HO_306001; clear BK305; clear BK306; clear HB; clear HO_14; have HO_74 := n0_; have HO_306001 := n1_; have BK305 := n2_; have BK306 := n3_; have HB := n4_; have HO322 := n5_; clear n0_ n1_ n2_ n3_ n4_ n5_; clear ho hb hg hat))
               go_roundg k1
               case measure => have := HK1.out; omega
               case rel => exact ⟨(y320), (wrap64 (x76_1 + 1)), z9_, H', ⟨z21_⟩, ⟨z133_⟩, ⟨z130_⟩, ⟨z132_⟩, ⟨z112_⟩, ⟨z126_⟩, ⟨z111_⟩⟩
              ·rw [if_neg c68] at H
               exact absurd H (by simp)
             ·rw [if_neg c67] at H
              exact absurd H (by simp)
            ·rw [if_neg c66] at H
             exact absurd H (by simp)
           ·rw [if_neg c65] at H
            have c65b0 : decide (x76_1 < (y326.length : Int)) = false := decide_eq_false c65
            clear c65
            simp only [Option.some.injEq, Prod.mk.injEq] at H
            obtain ⟨rfl, rfl, rfl, rfl, rfl⟩ := H
            try go_wp2
            have n0_ := a0_ (Kd.R_drew HO_14.out)
            have n1_ := a0_ (Kd.R_drew HO_74.out)
            have n2_ := a0_ (Kd.R_drew HO_306001.out)
            have n3_ := a0_ (blk_drew BK305.out)
            have n4_ := a0_ (blk_drew BK306.out)
            have n5_ := a0_ (below_drew1 HB.out)
            clear HO_14
            clear HO_74
            clear HO_306001
            clear BK305
            clear BK306
            clear HB
            have HO_14 := n0_
            have HO_74 := n1_
            have HO_306001 := n2_
            have BK305 := n3_
            have BK306 := n4_
            have HB := n5_
            clear n0_ n1_ n2_ n3_ n4_ n5_
            have hcv71 := own_string (P := Try.prog) Try.underlying111 Try.underlying5 Try.underlying9 (Kd.own_of_R HO_14.out)
            refine st_ 7 (S := fun w' => (convert 111 _ _).run Try.prog w' = .ok (.string (strOfNums _)) w') (ds := []) hcv71 (fun hHeld => ?_)
            generalize wr.drew = w70 at HO_14 HO_74 HO_306001 BK305 BK306 HB hHeld ⊢
            refine pu_ 0 (some 84) rfl rfl ?_
            refine pu_ 1 (some 85) rfl rfl ?_
            refine take_ (i := 2) (N := some 86) (v := ?_) (a' := ?_) #[true, true, true, false, false, false, false] rfl rfl z11_ (fun _ _ _ h => h) (Or.inl ⟨by rfl, ?_⟩) hHeld ?_ ?_
            rotate_left
            ·intro w' s0
             go_simp
             with_reducible rfl
            rotate_left
            ·exact put_
            refine on_ 3 (none) rfl rfl (fun K hK => ?_)
            have hs72 := blk_cell BK306.out 0
            have hfs72 := blk_frozen BK306.out 0
            have hns72_0 := NB305_306.out
            have hms72_0 := NB306_305.out
            have hs73 := blk_cell BK306.out 1
            have hfs73 := blk_frozen BK306.out 1
            have hns73_0 := NB305_306.out
            have hms73_0 := NB306_305.out
            refine skip_ (w1 := ?_) (by rfl) rfl ?_ ?_
            rotate_left
            ·go_simp
             rfl
            refine hK.out _ _ (own_string Try.underlying111 Try.underlying5 Try.underlying9 (Kd.own_of_R (Kd.R_far (Kd.R_far (Kd.R_types HO_14.out BK306.out (by simp [Kd.int, Kd.scalar])) (fun _ hk => hk.2) _) (fun _ hk => hk.2) _))) (fun hHeld => ?_)
            have BKZ := a0_ (blk_put (cs' := #[.int .i64 0, .slice none 0 0]) (blk_put (cs' := #[.int .i64 0, .slice none 0 0]) BK306.out 0 (.int .i64 0) rfl) 1 (.slice none 0 0) rfl)
            clear BK306
            have BK306 := BKZ
            clear hK K
            refine pu_ 4 (some 5) rfl rfl ?_
            refine pu_ 5 (some 6) rfl rfl ?_
            refine pu_ 6 (some 7) rfl rfl ?_
            refine done_ z11_ ?_
            try go_wp2
            refine bodyPost_ret (results_list (rs := [.cell 4 35, .tmp 5, .tmp 6, .tmp 7]) rfl (by simp) (.cell gb306 35 #[.int .i64 0, .slice none 0 0] (0, 0) _ rfl z126_ Try.underlying35 rfl z11_ (.tmp (.tmp (.tmp .nil))))) rfl ?_
            exact qpx150_
       ·rw [if_neg c46] at H
        exact absurd H (by simp)
      ·rw [if_neg c44] at H
       have c44b0 : (t310 == a0_0) = false := beq_eq_false_iff_ne.mpr c44
       have c44b1 : (t310 != a0_0) = true := bne_iff_ne.mpr c44
       simp only [Option.some.injEq, Prod.mk.injEq] at H
       obtain ⟨rfl, rfl, rfl, rfl, rfl⟩ := H
       go_enter Try.func70, Try.ntmps70
       go_wp2_with (first | ((with_reducible refine gate_dst (N := 2) rfl ?_); refine box_event ?hg (N := 2) ?hd (cs := #[.int .i64 a0_0, .slice A0_1 l0_1.length c0_1]) (t := 35) ?hr ?_; (case hd => rfl); (case hg => rfl); (case hr => exact z7_); intro gb305 hg w75 hbox hb; have n0_ := a0_ (below_step z6_ hb); have n1_ := a0_ (hbox); have n2_ := a0_ ((z8_ : w.heap.size ≤ gb305)); have n3_ := a0_ ((z8_ : w.heap.size ≤ gb305)); clear HB; have HB := n0_; have BK305 := n1_; have GW305 := n2_; have GE305 := n3_; clear n0_ n1_ n2_ n3_; clear hb hbox hg) | ((with_reducible refine gate_dst (N := 4) rfl ?_); refine box_event ?hg (N := 4) ?hd (cs := #[.int .i64 0, .slice none 0 0]) (t := 35) ?hr ?_; (case hd => rfl); (case hg => rfl); (case hr => exact z7_); intro gb306 hg w76 hbox hb; have n0_ := a0_ (blk_below z112_ hb); have n1_ := a0_ (below_step z113_ hb); have n2_ := a0_ (hbox); have n3_ := a0_ ((z114_ : w.heap.size ≤ gb306)); have n4_ := a0_ ((z114_ : w.heap.size ≤ gb306)); have n5_ := a0_ ((z115_ : gb305 ≠ gb306)); have n6_ := a0_ ((z116_ : gb306 ≠ gb305)); clear BK305; clear HB; have BK305 := n0_; have HB := n1_; have BK306 := n2_; have GW306 := n3_; have GE306 := n4_; have NB305_306 := n5_; have NB306_305 := n6_; clear n0_ n1_ n2_ n3_ n4_ n5_ n6_; clear hb hbox hg) | ((with_reducible refine gate_callee (f := 71) rfl ?_); refine goesL_ (some 19) rfl rfl Try.func71 z11_ rfl #[.string a1, .int .i64 2] rfl z12_ ?_; (with_reducible refine (octet_Number.calls k a1 2 t307 t308 t309 _ A3.out).mono ?_); rintro e w' ⟨rfl, ⟨nd, rfl⟩⟩; refine ⟨_, rfl, ?_⟩; (try (rw [drewN_self w76]; generalize hq_ : World.drewN w76 _ = w76; have n0_ : Aside0 (w76.heap[gb305]? = some (.cells #[.int .i64 a0_0, .slice A0_1 l0_1.length c0_1] 35 (0, 0))) := ⟨z117_⟩; have n1_ : Aside0 (w76.heap[gb306]? = some (.cells #[.int .i64 0, .slice none 0 0] 35 (0, 0))) := ⟨z118_⟩; have n2_ : Aside0 (Below w.heap.size w w76) := ⟨z119_⟩; clear BK305 BK306 HB hq_; have BK305 := n0_; have BK306 := n1_; have HB := n2_; clear n0_ n1_ n2_))) | ((with_reducible refine gate_callee (f := 71) rfl ?_); refine goesL_ (some 25) rfl rfl Try.func71 z11_ rfl #[.string t308, .int .i64 2] rfl z12_ ?_; (with_reducible refine (octet_Number.calls k t308 2 t310 t311 t312 _ A4.out).mono ?_); rintro e w' ⟨rfl, ⟨nd, rfl⟩⟩; refine ⟨_, rfl, ?_⟩; (try (rw [drewN_self w76]; generalize hq_ : World.drewN w76 _ = w76; have n0_ : Aside0 (w76.heap[gb305]? = some (.cells #[.int .i64 a0_0, .slice A0_1 l0_1.length c0_1] 35 (0, 0))) := ⟨z117_⟩; have n1_ : Aside0 (w76.heap[gb306]? = some (.cells #[.int .i64 0, .slice none 0 0] 35 (0, 0))) := ⟨z118_⟩; have n2_ : Aside0 (Below w.heap.size w w76) := ⟨z119_⟩; clear BK305 BK306 HB hq_; have BK305 := n0_; have BK306 := n1_; have HB := n2_; clear n0_ n1_ n2_)); have hnb77 := NB305_306.out; have hnc77 := NB306_305.out; have hcz78_0 := blk_cell BK305.out 0; have hcz78_1 := blk_cell BK305.out 1; have hfz78_0 := blk_frozen BK305.out 0; have hfz78_1 := blk_frozen BK305.out 1; have hcz79_0 := blk_cell BK306.out 0; have hcz79_1 := blk_cell BK306.out 1; have hfz79_0 := blk_frozen BK306.out 0; have hfz79_1 := blk_frozen BK306.out 1))
       refine bodyPost_ret (results_list (rs := [.cell 4 35, .tmp 5, .tmp 6, .tmp 7]) rfl (by simp) (.cell gb306 35 #[.int .i64 0, .slice none 0 0] (0, 0) _ rfl z120_ Try.underlying35 rfl z11_ (.tmp (.tmp (.tmp .nil))))) rfl ?_
       exact qpx150_
     ·rw [if_neg c43] at H
      have c43b0 : (t307 == (l0_1.length : Int)) = false := beq_eq_false_iff_ne.mpr c43
      have c43b1 : (t307 != (l0_1.length : Int)) = true := bne_iff_ne.mpr c43
      simp only [Option.some.injEq, Prod.mk.injEq] at H
      obtain ⟨rfl, rfl, rfl, rfl, rfl⟩ := H
      go_enter Try.func70, Try.ntmps70
      go_wp2_with (first | ((with_reducible refine gate_dst (N := 2) rfl ?_); refine box_event ?hg (N := 2) ?hd (cs := #[.int .i64 a0_0, .slice A0_1 l0_1.length c0_1]) (t := 35) ?hr ?_; (case hd => rfl); (case hg => rfl); (case hr => exact z7_); intro gb305 hg w80 hbox hb; have n0_ := a0_ (below_step z6_ hb); have n1_ := a0_ (hbox); have n2_ := a0_ ((z8_ : w.heap.size ≤ gb305)); have n3_ := a0_ ((z8_ : w.heap.size ≤ gb305)); clear HB; have HB := n0_; have BK305 := n1_; have GW305 := n2_; have GE305 := n3_; clear n0_ n1_ n2_ n3_; clear hb hbox hg) | ((with_reducible refine gate_dst (N := 4) rfl ?_); refine box_event ?hg (N := 4) ?hd (cs := #[.int .i64 0, .slice none 0 0]) (t := 35) ?hr ?_; (case hd => rfl); (case hg => rfl); (case hr => exact z7_); intro gb306 hg w81 hbox hb; have n0_ := a0_ (blk_below z112_ hb); have n1_ := a0_ (below_step z113_ hb); have n2_ := a0_ (hbox); have n3_ := a0_ ((z114_ : w.heap.size ≤ gb306)); have n4_ := a0_ ((z114_ : w.heap.size ≤ gb306)); have n5_ := a0_ ((z115_ : gb305 ≠ gb306)); have n6_ := a0_ ((z116_ : gb306 ≠ gb305)); clear BK305; clear HB; have BK305 := n0_; have HB := n1_; have BK306 := n2_; have GW306 := n3_; have GE306 := n4_; have NB305_306 := n5_; have NB306_305 := n6_; clear n0_ n1_ n2_ n3_ n4_ n5_ n6_; clear hb hbox hg) | ((with_reducible refine gate_callee (f := 71) rfl ?_); refine goesL_ (some 19) rfl rfl Try.func71 z11_ rfl #[.string a1, .int .i64 2] rfl z12_ ?_; (with_reducible refine (octet_Number.calls k a1 2 t307 t308 t309 _ A3.out).mono ?_); rintro e w' ⟨rfl, ⟨nd, rfl⟩⟩; refine ⟨_, rfl, ?_⟩; (try (rw [drewN_self w81]; generalize hq_ : World.drewN w81 _ = w81; have n0_ : Aside0 (w81.heap[gb305]? = some (.cells #[.int .i64 a0_0, .slice A0_1 l0_1.length c0_1] 35 (0, 0))) := ⟨z117_⟩; have n1_ : Aside0 (w81.heap[gb306]? = some (.cells #[.int .i64 0, .slice none 0 0] 35 (0, 0))) := ⟨z118_⟩; have n2_ : Aside0 (Below w.heap.size w w81) := ⟨z119_⟩; clear BK305 BK306 HB hq_; have BK305 := n0_; have BK306 := n1_; have HB := n2_; clear n0_ n1_ n2_))) | ((with_reducible refine gate_callee (f := 71) rfl ?_); refine goesL_ (some 25) rfl rfl Try.func71 z11_ rfl #[.string t308, .int .i64 2] rfl z12_ ?_; (with_reducible refine (octet_Number.calls k t308 2 t310 t311 t312 _ A4.out).mono ?_); rintro e w' ⟨rfl, ⟨nd, rfl⟩⟩; refine ⟨_, rfl, ?_⟩; (try (rw [drewN_self w81]; generalize hq_ : World.drewN w81 _ = w81; have n0_ : Aside0 (w81.heap[gb305]? = some (.cells #[.int .i64 a0_0, .slice A0_1 l0_1.length c0_1] 35 (0, 0))) := ⟨z117_⟩; have n1_ : Aside0 (w81.heap[gb306]? = some (.cells #[.int .i64 0, .slice none 0 0] 35 (0, 0))) := ⟨z118_⟩; have n2_ : Aside0 (Below w.heap.size w w81) := ⟨z119_⟩; clear BK305 BK306 HB hq_; have BK305 := n0_; have BK306 := n1_; have HB := n2_; clear n0_ n1_ n2_)); have hnb82 := NB305_306.out; have hnc82 := NB306_305.out; have hcz83_0 := blk_cell BK305.out 0; have hcz83_1 := blk_cell BK305.out 1; have hfz83_0 := blk_frozen BK305.out 0; have hfz83_1 := blk_frozen BK305.out 1; have hcz84_0 := blk_cell BK306.out 0; have hcz84_1 := blk_cell BK306.out 1; have hfz84_0 := blk_frozen BK306.out 0; have hfz84_1 := blk_frozen BK306.out 1))
      refine bodyPost_ret (results_list (rs := [.cell 4 35, .tmp 5, .tmp 6, .tmp 7]) rfl (by simp) (.cell gb306 35 #[.int .i64 0, .slice none 0 0] (0, 0) _ rfl z120_ Try.underlying35 rfl z11_ (.tmp (.tmp (.tmp .nil))))) rfl ?_
      exact qpx150_
  ·rw [if_neg c6] at H
   have c6b0 : (t312 == 0) = false := beq_eq_false_iff_ne.mpr c6
   have c6b1 : (t312 != 0) = true := bne_iff_ne.mpr c6
   simp only [Option.some.injEq, Prod.mk.injEq] at H
   obtain ⟨rfl, rfl, rfl, rfl, rfl⟩ := H
   go_enter Try.func70, Try.ntmps70
   go_wp2_with (first | ((with_reducible refine gate_dst (N := 2) rfl ?_); refine box_event ?hg (N := 2) ?hd (cs := #[.int .i64 a0_0, .slice A0_1 l0_1.length c0_1]) (t := 35) ?hr ?_; (case hd => rfl); (case hg => rfl); (case hr => exact z7_); intro gb305 hg w85 hbox hb; have n0_ := a0_ (below_step z6_ hb); have n1_ := a0_ (hbox); have n2_ := a0_ ((z8_ : w.heap.size ≤ gb305)); have n3_ := a0_ ((z8_ : w.heap.size ≤ gb305)); clear HB; have HB := n0_; have BK305 := n1_; have GW305 := n2_; have GE305 := n3_; clear n0_ n1_ n2_ n3_; clear hb hbox hg) | ((with_reducible refine gate_dst (N := 4) rfl ?_); refine box_event ?hg (N := 4) ?hd (cs := #[.int .i64 0, .slice none 0 0]) (t := 35) ?hr ?_; (case hd => rfl); (case hg => rfl); (case hr => exact z7_); intro gb306 hg w86 hbox hb; have n0_ := a0_ (blk_below z112_ hb); have n1_ := a0_ (below_step z113_ hb); have n2_ := a0_ (hbox); have n3_ := a0_ ((z114_ : w.heap.size ≤ gb306)); have n4_ := a0_ ((z114_ : w.heap.size ≤ gb306)); have n5_ := a0_ ((z115_ : gb305 ≠ gb306)); have n6_ := a0_ ((z116_ : gb306 ≠ gb305)); clear BK305; clear HB; have BK305 := n0_; have HB := n1_; have BK306 := n2_; have GW306 := n3_; have GE306 := n4_; have NB305_306 := n5_; have NB306_305 := n6_; clear n0_ n1_ n2_ n3_ n4_ n5_ n6_; clear hb hbox hg) | ((with_reducible refine gate_callee (f := 71) rfl ?_); refine goesL_ (some 19) rfl rfl Try.func71 z11_ rfl #[.string a1, .int .i64 2] rfl z12_ ?_; (with_reducible refine (octet_Number.calls k a1 2 t307 t308 t309 _ A3.out).mono ?_); rintro e w' ⟨rfl, ⟨nd, rfl⟩⟩; refine ⟨_, rfl, ?_⟩; (try (rw [drewN_self w86]; generalize hq_ : World.drewN w86 _ = w86; have n0_ : Aside0 (w86.heap[gb305]? = some (.cells #[.int .i64 a0_0, .slice A0_1 l0_1.length c0_1] 35 (0, 0))) := ⟨z117_⟩; have n1_ : Aside0 (w86.heap[gb306]? = some (.cells #[.int .i64 0, .slice none 0 0] 35 (0, 0))) := ⟨z118_⟩; have n2_ : Aside0 (Below w.heap.size w w86) := ⟨z119_⟩; clear BK305 BK306 HB hq_; have BK305 := n0_; have BK306 := n1_; have HB := n2_; clear n0_ n1_ n2_))) | ((with_reducible refine gate_callee (f := 71) rfl ?_); refine goesL_ (some 25) rfl rfl Try.func71 z11_ rfl #[.string t308, .int .i64 2] rfl z12_ ?_; (with_reducible refine (octet_Number.calls k t308 2 t310 t311 t312 _ A4.out).mono ?_); rintro e w' ⟨rfl, ⟨nd, rfl⟩⟩; refine ⟨_, rfl, ?_⟩; (try (rw [drewN_self w86]; generalize hq_ : World.drewN w86 _ = w86; have n0_ : Aside0 (w86.heap[gb305]? = some (.cells #[.int .i64 a0_0, .slice A0_1 l0_1.length c0_1] 35 (0, 0))) := ⟨z117_⟩; have n1_ : Aside0 (w86.heap[gb306]? = some (.cells #[.int .i64 0, .slice none 0 0] 35 (0, 0))) := ⟨z118_⟩; have n2_ : Aside0 (Below w.heap.size w w86) := ⟨z119_⟩; clear BK305 BK306 HB hq_; have BK305 := n0_; have BK306 := n1_; have HB := n2_; clear n0_ n1_ n2_)); have hnb87 := NB306_305.out; have hnc87 := NB305_306.out; have hcz88_0 := blk_cell BK306.out 0; have hcz88_1 := blk_cell BK306.out 1; have hfz88_0 := blk_frozen BK306.out 0; have hfz88_1 := blk_frozen BK306.out 1))
   refine bodyPost_ret (results_list (rs := [.cell 4 35, .tmp 5, .tmp 6, .tmp 7]) rfl (by simp) (.cell gb306 35 #[.int .i64 0, .slice none 0 0] (0, 0) _ rfl z120_ Try.underlying35 rfl z11_ (.tmp (.tmp (.tmp .nil))))) rfl ?_
   exact qpx150_
 ·rw [if_neg c5] at H
  have c5b0 : (t309 == 0) = false := beq_eq_false_iff_ne.mpr c5
  have c5b1 : (t309 != 0) = true := bne_iff_ne.mpr c5
  simp only [Option.some.injEq, Prod.mk.injEq] at H
  obtain ⟨rfl, rfl, rfl, rfl, rfl⟩ := H
  go_enter Try.func70, Try.ntmps70
  go_wp2_with (first | ((with_reducible refine gate_dst (N := 2) rfl ?_); refine box_event ?hg (N := 2) ?hd (cs := #[.int .i64 a0_0, .slice A0_1 l0_1.length c0_1]) (t := 35) ?hr ?_; (case hd => rfl); (case hg => rfl); (case hr => exact z7_); intro gb305 hg w89 hbox hb; have n0_ := a0_ (below_step z6_ hb); have n1_ := a0_ (hbox); have n2_ := a0_ ((z8_ : w.heap.size ≤ gb305)); have n3_ := a0_ ((z8_ : w.heap.size ≤ gb305)); clear HB; have HB := n0_; have BK305 := n1_; have GW305 := n2_; have GE305 := n3_; clear n0_ n1_ n2_ n3_; clear hb hbox hg) | ((with_reducible refine gate_dst (N := 4) rfl ?_); refine box_event ?hg (N := 4) ?hd (cs := #[.int .i64 0, .slice none 0 0]) (t := 35) ?hr ?_; (case hd => rfl); (case hg => rfl); (case hr => exact z7_); intro gb306 hg w90 hbox hb; have n0_ := a0_ (blk_below z112_ hb); have n1_ := a0_ (below_step z113_ hb); have n2_ := a0_ (hbox); have n3_ := a0_ ((z114_ : w.heap.size ≤ gb306)); have n4_ := a0_ ((z114_ : w.heap.size ≤ gb306)); have n5_ := a0_ ((z115_ : gb305 ≠ gb306)); have n6_ := a0_ ((z116_ : gb306 ≠ gb305)); clear BK305; clear HB; have BK305 := n0_; have HB := n1_; have BK306 := n2_; have GW306 := n3_; have GE306 := n4_; have NB305_306 := n5_; have NB306_305 := n6_; clear n0_ n1_ n2_ n3_ n4_ n5_ n6_; clear hb hbox hg) | ((with_reducible refine gate_callee (f := 71) rfl ?_); refine goesL_ (some 19) rfl rfl Try.func71 z11_ rfl #[.string a1, .int .i64 2] rfl z12_ ?_; (with_reducible refine (octet_Number.calls k a1 2 t307 t308 t309 _ A3.out).mono ?_); rintro e w' ⟨rfl, ⟨nd, rfl⟩⟩; refine ⟨_, rfl, ?_⟩; (try (rw [drewN_self w90]; generalize hq_ : World.drewN w90 _ = w90; have n0_ : Aside0 (w90.heap[gb305]? = some (.cells #[.int .i64 a0_0, .slice A0_1 l0_1.length c0_1] 35 (0, 0))) := ⟨z117_⟩; have n1_ : Aside0 (w90.heap[gb306]? = some (.cells #[.int .i64 0, .slice none 0 0] 35 (0, 0))) := ⟨z118_⟩; have n2_ : Aside0 (Below w.heap.size w w90) := ⟨z119_⟩; clear BK305 BK306 HB hq_; have BK305 := n0_; have BK306 := n1_; have HB := n2_; clear n0_ n1_ n2_))) | ((with_reducible refine gate_callee (f := 71) rfl ?_); refine goesL_ (some 25) rfl rfl Try.func71 z11_ rfl #[.string t308, .int .i64 2] rfl z12_ ?_; (with_reducible refine (octet_Number.calls k t308 2 t310 t311 t312 _ A4.out).mono ?_); rintro e w' ⟨rfl, ⟨nd, rfl⟩⟩; refine ⟨_, rfl, ?_⟩; (try (rw [drewN_self w90]; generalize hq_ : World.drewN w90 _ = w90; have n0_ : Aside0 (w90.heap[gb305]? = some (.cells #[.int .i64 a0_0, .slice A0_1 l0_1.length c0_1] 35 (0, 0))) := ⟨z117_⟩; have n1_ : Aside0 (w90.heap[gb306]? = some (.cells #[.int .i64 0, .slice none 0 0] 35 (0, 0))) := ⟨z118_⟩; have n2_ : Aside0 (Below w.heap.size w w90) := ⟨z119_⟩; clear BK305 BK306 HB hq_; have BK305 := n0_; have BK306 := n1_; have HB := n2_; clear n0_ n1_ n2_)); have hnb91 := NB306_305.out; have hnc91 := NB305_306.out; have hcz92_0 := blk_cell BK306.out 0; have hcz92_1 := blk_cell BK306.out 1; have hfz92_0 := blk_frozen BK306.out 0; have hfz92_1 := blk_frozen BK306.out 1))
  refine bodyPost_ret (results_list (rs := [.cell 4 35, .tmp 5, .tmp 6, .tmp 7]) rfl (by simp) (.cell gb306 35 #[.int .i64 0, .slice none 0 0] (0, 0) _ rfl z120_ Try.underlying35 rfl z11_ (.tmp (.tmp (.tmp .nil))))) rfl ?_
  exact qpx150_
end Go.Proofs.Ytecfndblgefhdaa.P
