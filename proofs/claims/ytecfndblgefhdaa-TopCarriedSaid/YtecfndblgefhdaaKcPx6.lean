import Derived.Test.YtecfndblgefhdaaKcPx4
import Derived.Test.YtecfndblgefhdaaKcPx5
namespace Go.Proofs.Ytecfndblgefhdaa.P
open Go.RowKit Go.Proofs.YtecfndblgefhdaaW.PrintWords Go.Proofs.YtecfndblgefhdaaW.PrintLast Go.Proofs.YtecfndblgefhdaaW.PrintMore
attribute [local go_sem] max2_int min2_int max_two min_two max_three min_three max_four min_four
set_option linter.unusedVariables false
set_option linter.unusedSimpArgs false
theorem qpx60_ {p : Prop} (h : p := by exact ⟨z3_, z53_⟩) : p := h
mutual
def msg_Right.j0 : Nat → Bool → Int → Int → List (S160) → Int → Int → Int → Bool → List (S160) → Int → List (S166) → List Int → Int → Int → List (S120) → Option (Bool)
 | 0, _, _, _, _, _, _, _, _, _, _, _, _, _, _, _ => none
 | k + 1, x5, x147000, x147001, x147002, x147003, x147004, x147005, x147006, x147007, x147008, x147009, x147010, x147011, x147012, x147013 => (some (([x147001, x147003, x147004, x147005, x147011, x147012] : List Int) : List Int)).bind fun y151 => (msg_Right.l0 k x5 y151 (y151.length : Int) 0 x147000 x147001 x147002 x147003 x147004 x147005 x147006 x147007 x147008 x147009 x147010 x147011 x147012 x147013)
def msg_Right.l0 : Nat → Bool → List Int → Int → Int → Int → Int → List (S160) → Int → Int → Int → Bool → List (S160) → Int → List (S166) → List Int → Int → Int → List (S120) → Option (Bool)
 | 0, _, _, _, _, _, _, _, _, _, _, _, _, _, _, _, _, _, _ => none
 | k + 1, x5, x49, x50, x51, x147000, x147001, x147002, x147003, x147004, x147005, x147006, x147007, x147008, x147009, x147010, x147011, x147012, x147013 => if x51 < x50 then (if 0 ≤ x51 then (if x51 < (x49.length : Int) then (if x5 = true then ((msg_number.f (rd x49 x51)).bind fun t155 => (msg_Right.l0 k t155 x49 x50 (wrap64 (x51 + 1)) x147000 x147001 x147002 x147003 x147004 x147005 x147006 x147007 x147008 x147009 x147010 x147011 x147012 x147013)) else (msg_Right.l0 k false x49 x50 (wrap64 (x51 + 1)) x147000 x147001 x147002 x147003 x147004 x147005 x147006 x147007 x147008 x147009 x147010 x147011 x147012 x147013)) else (none)) else (none)) else (if x5 = true then (if (x147002.length : Int) = 0 then ((msg_placed.f k x147007 x147008).bind fun t156 => (if t156 = true then ((dirty_Right.f k x147009).bind fun t157 => (if t157 = true then ((msg_writable.f k x147013).bind fun t158 => (some t158)) else (some false))) else (some false))) else ((line_Right.f k x147002).bind fun t159 => (if t159 = true then ((msg_placed.f k x147007 x147008).bind fun t160 => (if t160 = true then ((dirty_Right.f k x147009).bind fun t161 => (if t161 = true then ((msg_writable.f k x147013).bind fun t162 => (some t162)) else (some false))) else (some false))) else (some false)))) else (some false))
end
def msg_Right.f (k : Nat) (a0_0 : Int) (a0_1 : Int) (l0_2 : List (S160)) (a0_3 : Int) (a0_4 : Int) (a0_5 : Int) (a0_6 : Bool) (l0_7 : List (S160)) (a0_8 : Int) (l0_9 : List (S166)) (l0_10 : List Int) (a0_11 : Int) (a0_12 : Int) (l0_13 : List (S120)) : Option (Bool) := (vols_Blank.f k l0_10).bind fun bt147 => (if a0_0 ≥ 1 then (if a0_0 ≤ 9 then (if bt147.2 = 0 then (msg_Right.j0 k (decide (a0_11 ≤ a0_12)) a0_0 a0_1 l0_2 a0_3 a0_4 a0_5 a0_6 l0_7 a0_8 l0_9 l0_10 a0_11 a0_12 l0_13) else (msg_Right.j0 k false a0_0 a0_1 l0_2 a0_3 a0_4 a0_5 a0_6 l0_7 a0_8 l0_9 l0_10 a0_11 a0_12 l0_13)) else (msg_Right.j0 k false a0_0 a0_1 l0_2 a0_3 a0_4 a0_5 a0_6 l0_7 a0_8 l0_9 l0_10 a0_11 a0_12 l0_13)) else (msg_Right.j0 k false a0_0 a0_1 l0_2 a0_3 a0_4 a0_5 a0_6 l0_7 a0_8 l0_9 l0_10 a0_11 a0_12 l0_13))
set_option maxHeartbeats 8000000 in
set_option maxRecDepth 100000 in
theorem msg_Right.calls (k : Nat) (a0_0 : Int) (a0_1 : Int) (A0_2 : Option Addr) (c0_2 : Nat) (l0_2 : List (S160)) (a0_3 : Int) (a0_4 : Int) (a0_5 : Int) (a0_6 : Bool) (A0_7 : Option Addr) (c0_7 : Nat) (l0_7 : List (S160)) (a0_8 : Int) (A0_9 : Option Addr) (c0_9 : Nat) (l0_9 : List (S166)) (A0_10 : Option Addr) (c0_10 : Nat) (l0_10 : List Int) (a0_11 : Int) (a0_12 : Int) (A0_13 : Option Addr) (c0_13 : Nat) (l0_13 : List (S120)) (r : Bool) (w : World) (hr0_2 : Kd.C k160 w A0_2 l0_2.length l0_2) (hc0_2 : l0_2.length ≤ c0_2) (hr0_7 : Kd.C k160 w A0_7 l0_7.length l0_7) (hc0_7 : l0_7.length ≤ c0_7) (hr0_9 : Kd.C k166 w A0_9 l0_9.length l0_9) (hc0_9 : l0_9.length ≤ c0_9) (hr0_10 : Kd.C (Kd.int .i64) w A0_10 l0_10.length l0_10) (hc0_10 : l0_10.length ≤ c0_10) (hr0_13 : Kd.C k120 w A0_13 l0_13.length l0_13) (hc0_13 : l0_13.length ≤ c0_13) (h : msg_Right.f k a0_0 a0_1 l0_2 a0_3 a0_4 a0_5 a0_6 l0_7 a0_8 l0_9 l0_10 a0_11 a0_12 l0_13 = some r) :
  Calls Try.prog 37 #[.agg #[.int .i64 a0_0, .int .i64 a0_1, .slice A0_2 l0_2.length c0_2, .int .i64 a0_3, .int .i64 a0_4, .int .i64 a0_5, .bool a0_6, .slice A0_7 l0_7.length c0_7, .int .i64 a0_8, .slice A0_9 l0_9.length c0_9, .slice A0_10 l0_10.length c0_10, .int .i64 a0_11, .int .i64 a0_12, .slice A0_13 l0_13.length c0_13]] w fun e w' => e = .returned (.bool r) ∧ Below w.heap.size w w' := by
 have hu53 := Try.underlying53
 have hu46 := Try.underlying46
 have HR0_2 := a0_ hr0_2
 have HC0_2 := a0_ hc0_2
 clear hr0_2 hc0_2
 have HR0_7 := a0_ hr0_7
 have HC0_7 := a0_ hc0_7
 clear hr0_7 hc0_7
 have HR0_9 := a0_ hr0_9
 have HC0_9 := a0_ hc0_9
 clear hr0_9 hc0_9
 have HR0_10 := a0_ hr0_10
 have HC0_10 := a0_ hc0_10
 clear hr0_10 hc0_10
 have HR0_13 := a0_ hr0_13
 have HC0_13 := a0_ hc0_13
 clear hr0_13 hc0_13
 have HB := a0_ (Below.refl w.heap.size w)
 have H : ((vols_Blank.f k l0_10).bind fun bt147 => (if a0_0 ≥ 1 then (if a0_0 ≤ 9 then (if bt147.2 = 0 then (msg_Right.j0 k (decide (a0_11 ≤ a0_12)) a0_0 a0_1 l0_2 a0_3 a0_4 a0_5 a0_6 l0_7 a0_8 l0_9 l0_10 a0_11 a0_12 l0_13) else (msg_Right.j0 k false a0_0 a0_1 l0_2 a0_3 a0_4 a0_5 a0_6 l0_7 a0_8 l0_9 l0_10 a0_11 a0_12 l0_13)) else (msg_Right.j0 k false a0_0 a0_1 l0_2 a0_3 a0_4 a0_5 a0_6 l0_7 a0_8 l0_9 l0_10 a0_11 a0_12 l0_13)) else (msg_Right.j0 k false a0_0 a0_1 l0_2 a0_3 a0_4 a0_5 a0_6 l0_7 a0_8 l0_9 l0_10 a0_11 a0_12 l0_13))) = some r := h
 clear h
 replace H := Option.bind_eq_some_iff.mp H
 obtain ⟨⟨t147, t148⟩, A20, H⟩ := H
 try dsimp only at H
 have A2 := a0_ A20
 clear A20
 have HC3 := a0_ H
 clear H
 go_enter Try.func37, Try.ntmps37
 go_upto_region 2 with (first | ((with_reducible refine gate_dst (N := 1) rfl ?_); (try (refine gate_guard (by rfl) ?_; dsimp only)); refine box_event ?hg (N := 1) ?hd (cs := #[.int .i64 a0_0, .int .i64 a0_1, .slice A0_2 l0_2.length c0_2, .int .i64 a0_3, .int .i64 a0_4, .int .i64 a0_5, .bool a0_6, .slice A0_7 l0_7.length c0_7, .int .i64 a0_8, .slice A0_9 l0_9.length c0_9, .slice A0_10 l0_10.length c0_10, .int .i64 a0_11, .int .i64 a0_12, .slice A0_13 l0_13.length c0_13]) (t := 53) ?hr ?_; (case hd => rfl); (case hg => rfl); (case hr => exact z7_); intro gb146 hg w4 hbox hb; have n0_ := a0_ (below_step z6_ hb); have n1_ := a0_ (hbox); have n2_ := a0_ ((z8_ : w.heap.size ≤ gb146)); have n3_ := a0_ ((z8_ : w.heap.size ≤ gb146)); clear HB; have HB := n0_; have BK146 := n1_; have GW146 := n2_; have GE146 := n3_; clear n0_ n1_ n2_ n3_; clear hb hbox hg; obtain ⟨hcz5_0, hcz5_1, hcz5_2, hcz5_3, hcz5_4, hcz5_5, hcz5_6, hcz5_7, hcz5_8, hcz5_9, hcz5_10, hcz5_11, hcz5_12, hcz5_13⟩ := bc14_ BK146.out) | ((with_reducible refine gate_callee (f := 77) rfl ?_); refine goesL_ (some 11) rfl rfl Try.func77 z11_ rfl #[.slice A0_10 l0_10.length c0_10] rfl z12_ ?_; (with_reducible refine (vols_Blank.calls k _ _ l0_10 t147 t148 _ ?side1 ?side2 A2.out).mono ?_); (case side1 => exact z54_); (case side2 => exact HC0_10.out); rintro e w6 ⟨v149, rfl, ho0, hb⟩; refine ⟨_, rfl, ?_⟩; have HO150 := a0_ (Kd.S_lower ho0 (below_size z53_)); replace BK146 := a0_ (blk_below z55_ hb); replace HB := a0_ (below_step z53_ hb); (try clear hb); (try clear hb2); (try clear hk); (try clear hi); (try clear ho0)))
 (try simp only [Act.put, List.setIfInBounds_toArray, List.set_cons_zero, List.set_cons_succ])
 go_cut [5] (fun v5 wc => ∃ (kq : Nat) (x5_2 : Bool), v5 = .bool x5_2 ∧ Aside0 (msg_Right.j0 kq x5_2 a0_0 a0_1 l0_2 a0_3 a0_4 a0_5 a0_6 l0_7 a0_8 l0_9 l0_10 a0_11 a0_12 l0_13 = some r) ∧ Aside0 (kq ≤ k) ∧ Aside0 (wc.heap[gb146]? = some (.cells #[.int .i64 a0_0, .int .i64 a0_1, (.slice A0_2 l0_2.length c0_2), .int .i64 a0_3, .int .i64 a0_4, .int .i64 a0_5, .bool a0_6, (.slice A0_7 l0_7.length c0_7), .int .i64 a0_8, (.slice A0_9 l0_9.length c0_9), (.slice A0_10 l0_10.length c0_10), .int .i64 a0_11, .int .i64 a0_12, (.slice A0_13 l0_13.length c0_13)] 53 (0, 0))) ∧ Aside0 (Below w.heap.size w wc))
 case first =>
  have H := HC3.out
  clear HC3
  by_cases c7 : a0_0 ≥ 1
  ·rw [if_pos c7] at H
   have c7b0 : decide (1 ≤ a0_0) = true := decide_eq_true c7
   clear c7
   (first | rw [c7b0] | (simp only [i64_w, i32_w]; rw [c7b0]) | skip)
   by_cases c8 : a0_0 ≤ 9
   ·rw [if_pos c8] at H
    have c8b0 : decide (a0_0 ≤ 9) = true := decide_eq_true c8
    clear c8
    by_cases c9 : t148 = 0
    ·rw [if_pos c9] at H
     have c9b0 : (t148 == 0) = true := beq_iff_eq.mpr c9
     have c9b1 : (t148 != 0) = false := bne_eq_false_iff_eq.mpr c9
     clear c9
     have H' := a0_ H
     clear H
     obtain ⟨hcz10_0, hcz10_1, hcz10_2, hcz10_3, hcz10_4, hcz10_5, hcz10_6, hcz10_7, hcz10_8, hcz10_9, hcz10_10, hcz10_11, hcz10_12, hcz10_13⟩ := bc14_ BK146.out
     obtain ⟨hfz10_0, hfz10_1, hfz10_2, hfz10_3, hfz10_4, hfz10_5, hfz10_6, hfz10_7, hfz10_8, hfz10_9, hfz10_10, hfz10_11, hfz10_12, hfz10_13⟩ := bf14_ BK146.out
     go_wp2
     go_meet
     case rel => exact ⟨_, (decide (a0_11 ≤ a0_12)), z9_, H', ⟨z18_⟩, ⟨z55_⟩, ⟨z53_⟩⟩
    ·rw [if_neg c9] at H
     have c9b0 : (t148 == 0) = false := beq_eq_false_iff_ne.mpr c9
     have c9b1 : (t148 != 0) = true := bne_iff_ne.mpr c9
     have H' := a0_ H
     clear H
     obtain ⟨hcz11_0, hcz11_1, hcz11_2, hcz11_3, hcz11_4, hcz11_5, hcz11_6, hcz11_7, hcz11_8, hcz11_9, hcz11_10, hcz11_11, hcz11_12, hcz11_13⟩ := bc14_ BK146.out
     obtain ⟨hfz11_0, hfz11_1, hfz11_2, hfz11_3, hfz11_4, hfz11_5, hfz11_6, hfz11_7, hfz11_8, hfz11_9, hfz11_10, hfz11_11, hfz11_12, hfz11_13⟩ := bf14_ BK146.out
     go_wp2
     go_meet
     case rel => exact ⟨_, (false), z9_, H', ⟨z18_⟩, ⟨z55_⟩, ⟨z53_⟩⟩
   ·rw [if_neg c8] at H
    have c8b0 : decide (a0_0 ≤ 9) = false := decide_eq_false c8
    clear c8
    have H' := a0_ H
    clear H
    obtain ⟨hcz12_0, hcz12_1, hcz12_2, hcz12_3, hcz12_4, hcz12_5, hcz12_6, hcz12_7, hcz12_8, hcz12_9, hcz12_10, hcz12_11, hcz12_12, hcz12_13⟩ := bc14_ BK146.out
    obtain ⟨hfz12_0, hfz12_1, hfz12_2, hfz12_3, hfz12_4, hfz12_5, hfz12_6, hfz12_7, hfz12_8, hfz12_9, hfz12_10, hfz12_11, hfz12_12, hfz12_13⟩ := bf14_ BK146.out
    go_wp2
    go_meet
    case rel => exact ⟨_, (false), z9_, H', ⟨z18_⟩, ⟨z55_⟩, ⟨z53_⟩⟩
  ·rw [if_neg c7] at H
   have c7b0 : decide (1 ≤ a0_0) = false := decide_eq_false c7
   clear c7
   (first | rw [c7b0] | (simp only [i64_w, i32_w]; rw [c7b0]) | skip)
   have H' := a0_ H
   clear H
   obtain ⟨hcz13_0, hcz13_1, hcz13_2, hcz13_3, hcz13_4, hcz13_5, hcz13_6, hcz13_7, hcz13_8, hcz13_9, hcz13_10, hcz13_11, hcz13_12, hcz13_13⟩ := bc14_ BK146.out
   obtain ⟨hfz13_0, hfz13_1, hfz13_2, hfz13_3, hfz13_4, hfz13_5, hfz13_6, hfz13_7, hfz13_8, hfz13_9, hfz13_10, hfz13_11, hfz13_12, hfz13_13⟩ := bf14_ BK146.out
   go_wp2
   go_meet
   case rel => exact ⟨_, (false), z9_, H', ⟨z18_⟩, ⟨z55_⟩, ⟨z53_⟩⟩
 case rest =>
  clear HC3
  obtain ⟨kq, x5_2, rfl, HA, HJ2, BK146, HB⟩ := hcut
  cases kq with
  | zero => exact absurd HA.out (by simp [msg_Right.j0])
  | succ kj2 =>
   have H := HA.out
   clear HA
   simp only [msg_Right.j0] at H
   obtain ⟨y151, hy151⟩ : ∃ y_ : List Int, y_ = (([a0_1, a0_3, a0_4, a0_5, a0_11, a0_12] : List Int)) := ⟨_, rfl⟩
   replace H : (msg_Right.l0 kj2 x5_2 y151 (y151.length : Int) 0 a0_0 a0_1 l0_2 a0_3 a0_4 a0_5 a0_6 l0_7 a0_8 l0_9 l0_10 a0_11 a0_12 l0_13) = some r := by first | (rw [hy151]; with_reducible exact H) | (have H2_ := (Option.bind_some _ _).symm.trans H; rw [hy151]; with_reducible exact H2_) | (have H2_ := (Option.bind_some _ _).symm.trans H; with_reducible exact H2_) | with_reducible exact H | (rw [hy151]; exact H) | exact H
   have Ny151 := a0_ hy151
   clear hy151
   have H' := a0_ H
   clear H
   obtain ⟨hcz14_0, hcz14_1, hcz14_2, hcz14_3, hcz14_4, hcz14_5, hcz14_6, hcz14_7, hcz14_8, hcz14_9, hcz14_10, hcz14_11, hcz14_12, hcz14_13⟩ := bc14_ BK146.out
   obtain ⟨hfz14_0, hfz14_1, hfz14_2, hfz14_3, hfz14_4, hfz14_5, hfz14_6, hfz14_7, hfz14_8, hfz14_9, hfz14_10, hfz14_11, hfz14_12, hfz14_13⟩ := bf14_ BK146.out
   go_wp2_with (first | ((with_reducible refine gate_dst (N := 49) rfl ?_); (try (refine gate_guard (by rfl) ?_; dsimp only)); refine Kd.R_lit (Kd.int .i64) _ 3 ?hg (N := 49) ?hd (xs := ([a0_1, a0_3, a0_4, a0_5, a0_11, a0_12] : List Int)) (inner := [.int .i64 a0_1, .int .i64 a0_3, .int .i64 a0_4, .int .i64 a0_5, .int .i64 a0_11, .int .i64 a0_12]) (ok := fun _ => True) (okp := fun _ => True) ?hr ?hp (fun _ hk => hk) trivial (Below.refl _ _) (Nat.le_refl _) (by simp) ?_; (case hd => rfl); (case hg => rfl); (case hr => exact z7_); (case hp => exact (Reps.one (show Kd.M (Kd.int .i64) _ _ _ a0_1 [.int .i64 a0_1] from rfl) (Reps.one (show Kd.M (Kd.int .i64) _ _ _ a0_3 [.int .i64 a0_3] from rfl) (Reps.one (show Kd.M (Kd.int .i64) _ _ _ a0_4 [.int .i64 a0_4] from rfl) (Reps.one (show Kd.M (Kd.int .i64) _ _ _ a0_5 [.int .i64 a0_5] from rfl) (Reps.one (show Kd.M (Kd.int .i64) _ _ _ a0_11 [.int .i64 a0_11] from rfl) (Reps.one (show Kd.M (Kd.int .i64) _ _ _ a0_12 [.int .i64 a0_12] from rfl) (Reps.none _ _)))))))); intro v152 w15 ho16 hb hg_ hnew_; clear hg_ hnew_; (first | rw [← Ny151.out] at ho16 | (simp only [Int.reduceToNat] at ho16; rw [← Ny151.out] at ho16)); have HO153 := a0_ (Kd.R_lower ho16 (below_size z53_)); replace BK146 := a0_ (blk_below z55_ hb); replace HB := a0_ (below_step z53_ hb); clear hb ho16; obtain ⟨Ao17, co17, eo17⟩ := Kd.R_slice HO153.out; subst eo17))
   go_loopg [5, 51] kj2 (fun kq v5 v51 w' => ∃ (x5_2 : Bool) (x51_2 : Int), v5 = .bool x5_2 ∧ v51 = .int .i64 x51_2 ∧ Aside0 (msg_Right.l0 kq x5_2 y151 (y151.length : Int) x51_2 a0_0 a0_1 l0_2 a0_3 a0_4 a0_5 a0_6 l0_7 a0_8 l0_9 l0_10 a0_11 a0_12 l0_13 = some r) ∧ Aside0 (kq ≤ kj2) ∧ Aside0 (Kd.R (Kd.int .i64) 3 w' w.heap.size (fun _ => True) (.slice Ao17 y151.length co17) y151) ∧ Aside0 (w'.heap[gb146]? = some (.cells #[.int .i64 a0_0, .int .i64 a0_1, (.slice A0_2 l0_2.length c0_2), .int .i64 a0_3, .int .i64 a0_4, .int .i64 a0_5, .bool a0_6, (.slice A0_7 l0_7.length c0_7), .int .i64 a0_8, (.slice A0_9 l0_9.length c0_9), (.slice A0_10 l0_10.length c0_10), .int .i64 a0_11, .int .i64 a0_12, (.slice A0_13 l0_13.length c0_13)] 53 (0, 0))) ∧ Aside0 (Below w.heap.size w w'))
   case atStart => exact ⟨(x5_2), (0), z9_, z9_, H', ⟨Nat.le_refl _⟩, ⟨by (with_reducible repeat (first | apply Kd.R_alloc | apply Kd.R_drewN | apply Kd.R_drew)); exact HO153.out⟩, ⟨z55_⟩, ⟨z53_⟩⟩
   case round =>
    clear H'
    obtain ⟨x5_2, x51_2, rfl, rfl, HA, HK2, HO_49, BK146, HB⟩ := hrel
    cases gk with
    | zero => exact absurd HA.out (by simp [msg_Right.l0])
    | succ k2 =>
     have H := HA.out
     clear HA
     simp only [msg_Right.l0] at H
     by_cases c18 : x51_2 < (y151.length : Int)
     ·rw [if_pos c18] at H
      have c18b0 : decide (x51_2 < (y151.length : Int)) = true := decide_eq_true c18
      clear c18
      by_cases c19 : 0 ≤ x51_2
      ·rw [if_pos c19] at H
       have c19b0 : decide (0 ≤ x51_2) = true := decide_eq_true c19
       clear c19
       by_cases c20 : x51_2 < (y151.length : Int)
       ·rw [if_pos c20] at H
        have c20b0 : decide (x51_2 < (y151.length : Int)) = true := decide_eq_true c20
        clear c20
        by_cases c21 : x5_2 = true
        ·subst c21
         rw [if_pos rfl] at H
         replace H := Option.bind_eq_some_iff.mp H
         obtain ⟨t155, A220, H⟩ := H
         try dsimp only at H
         have A22 := a0_ A220
         clear A220
         have H' := a0_ H
         clear H
         have p154 : 0 ≤ (x51_2 : Int) := of_decide_eq_true z19_
         have q154 : x51_2 < (y151.length : Int) := of_decide_eq_true z19_
         obtain ⟨ad154, e154, hx154_0⟩ := Kd.at_int (Kd.R_reads' HO_49.out).2.2 x51_2 p154 q154
         cases e154
         replace p154 := eq_true p154
         replace q154 := eq_true q154
         go_wp2_with (first | (go_at_call 78; (with_reducible refine (msg_number.calls (rd y151 x51_2) t155 _ A22.out).mono ?_); rintro e w' ⟨rfl, ⟨nd, rfl⟩⟩))
         go_roundg k2
         case measure => have := HJ2.out; have := HK2.out; omega
         case rel => exact ⟨(t155), (wrap64 (x51_2 + 1)), z9_, z9_, H', ⟨z56_⟩, ⟨z57_⟩, ⟨z55_⟩, ⟨z53_⟩⟩
        ·replace c21 := Bool.eq_false_iff.mpr c21
         subst c21
         rw [if_neg (show ¬ (false = true) from z17_)] at H
         have H' := a0_ H
         clear H
         have p154 : 0 ≤ (x51_2 : Int) := of_decide_eq_true z19_
         have q154 : x51_2 < (y151.length : Int) := of_decide_eq_true z19_
         obtain ⟨ad154, e154, hx154_0⟩ := Kd.at_int (Kd.R_reads' HO_49.out).2.2 x51_2 p154 q154
         cases e154
         replace p154 := eq_true p154
         replace q154 := eq_true q154
         go_wp2
         go_roundg k2
         case measure => have := HJ2.out; have := HK2.out; omega
         case rel => exact ⟨(false), (wrap64 (x51_2 + 1)), z9_, z9_, H', ⟨z56_⟩, ⟨z57_⟩, ⟨z55_⟩, ⟨z53_⟩⟩
       ·rw [if_neg c20] at H
        exact absurd H (by simp)
      ·rw [if_neg c19] at H
       exact absurd H (by simp)
     ·rw [if_neg c18] at H
      have c18b0 : decide (x51_2 < (y151.length : Int)) = false := decide_eq_false c18
      clear c18
      by_cases c23 : x5_2 = true
      ·subst c23
       rw [if_pos rfl] at H
       by_cases c24 : (l0_2.length : Int) = 0
       ·rw [if_pos c24] at H
        have c24b0 : ((l0_2.length : Int) == 0) = true := beq_iff_eq.mpr c24
        have c24b1 : ((l0_2.length : Int) != 0) = false := bne_eq_false_iff_eq.mpr c24
        clear c24
        replace H := Option.bind_eq_some_iff.mp H
        obtain ⟨t156, A250, H⟩ := H
        try dsimp only at H
        have A25 := a0_ A250
        clear A250
        by_cases c26 : t156 = true
        ·subst c26
         rw [if_pos rfl] at H
         replace H := Option.bind_eq_some_iff.mp H
         obtain ⟨t157, A270, H⟩ := H
         try dsimp only at H
         have A27 := a0_ A270
         clear A270
         by_cases c28 : t157 = true
         ·subst c28
          rw [if_pos rfl] at H
          replace H := Option.bind_eq_some_iff.mp H
          obtain ⟨t158, A290, H⟩ := H
          try dsimp only at H
          have A29 := a0_ A290
          clear A290
          obtain rfl := Option.some.inj H
          obtain ⟨hcz30_0, hcz30_1, hcz30_2, hcz30_3, hcz30_4, hcz30_5, hcz30_6, hcz30_7, hcz30_8, hcz30_9, hcz30_10, hcz30_11, hcz30_12, hcz30_13⟩ := bc14_ BK146.out
          obtain ⟨hfz30_0, hfz30_1, hfz30_2, hfz30_3, hfz30_4, hfz30_5, hfz30_6, hfz30_7, hfz30_8, hfz30_9, hfz30_10, hfz30_11, hfz30_12, hfz30_13⟩ := bf14_ BK146.out
          go_wp2_with (first | (go_at_call 79; (with_reducible refine (msg_placed.calls k2 _ _ l0_7 a0_8 true _ ?side1 ?side2 A25.out).mono ?_); (case side1 => exact z58_); (case side2 => exact z59_); rintro e w31 ⟨rfl, hb⟩; replace HO_49 := a0_ (Kd.R_below z57_ hb); replace BK146 := a0_ (blk_below z55_ hb); replace HB := a0_ (below_step z53_ hb); (try clear hb); (try clear hb2); (try clear hk); (try clear hi); obtain ⟨hcz32_0, hcz32_1, hcz32_2, hcz32_3, hcz32_4, hcz32_5, hcz32_6, hcz32_7, hcz32_8, hcz32_9, hcz32_10, hcz32_11, hcz32_12, hcz32_13⟩ := bc14_ BK146.out) | (go_at_call 74; (with_reducible refine (dirty_Right.calls k2 _ _ l0_9 true _ ?side1 ?side2 A27.out).mono ?_); (case side1 => exact z60_); (case side2 => exact z61_); rintro e w33 ⟨rfl, hb⟩; replace HO_49 := a0_ (Kd.R_below z57_ hb); replace BK146 := a0_ (blk_below z55_ hb); replace HB := a0_ (below_step z53_ hb); (try clear hb); (try clear hb2); (try clear hk); (try clear hi); obtain ⟨hcz34_0, hcz34_1, hcz34_2, hcz34_3, hcz34_4, hcz34_5, hcz34_6, hcz34_7, hcz34_8, hcz34_9, hcz34_10, hcz34_11, hcz34_12, hcz34_13⟩ := bc14_ BK146.out) | (go_at_call 76; (with_reducible refine (msg_writable.calls k2 _ _ l0_13 t158 _ ?side1 ?side2 A29.out).mono ?_); (case side1 => exact z62_); (case side2 => exact z63_); rintro e w35 ⟨rfl, hb⟩; replace HO_49 := a0_ (Kd.R_below z57_ hb); replace BK146 := a0_ (blk_below z55_ hb); replace HB := a0_ (below_step z53_ hb); (try clear hb); (try clear hb2); (try clear hk); (try clear hi)))
          go_ret
          exact qpx60_
         ·replace c28 := Bool.eq_false_iff.mpr c28
          subst c28
          rw [if_neg (show ¬ (false = true) from z17_)] at H
          obtain rfl := Option.some.inj H
          obtain ⟨hcz36_0, hcz36_1, hcz36_2, hcz36_3, hcz36_4, hcz36_5, hcz36_6, hcz36_7, hcz36_8, hcz36_9, hcz36_10, hcz36_11, hcz36_12, hcz36_13⟩ := bc14_ BK146.out
          obtain ⟨hfz36_0, hfz36_1, hfz36_2, hfz36_3, hfz36_4, hfz36_5, hfz36_6, hfz36_7, hfz36_8, hfz36_9, hfz36_10, hfz36_11, hfz36_12, hfz36_13⟩ := bf14_ BK146.out
          go_wp2_with (first | (go_at_call 79; (with_reducible refine (msg_placed.calls k2 _ _ l0_7 a0_8 true _ ?side1 ?side2 A25.out).mono ?_); (case side1 => exact z58_); (case side2 => exact z59_); rintro e w37 ⟨rfl, hb⟩; replace HO_49 := a0_ (Kd.R_below z57_ hb); replace BK146 := a0_ (blk_below z55_ hb); replace HB := a0_ (below_step z53_ hb); (try clear hb); (try clear hb2); (try clear hk); (try clear hi); obtain ⟨hcz38_0, hcz38_1, hcz38_2, hcz38_3, hcz38_4, hcz38_5, hcz38_6, hcz38_7, hcz38_8, hcz38_9, hcz38_10, hcz38_11, hcz38_12, hcz38_13⟩ := bc14_ BK146.out) | (go_at_call 74; (with_reducible refine (dirty_Right.calls k2 _ _ l0_9 false _ ?side1 ?side2 A27.out).mono ?_); (case side1 => exact z60_); (case side2 => exact z61_); rintro e w39 ⟨rfl, hb⟩; replace HO_49 := a0_ (Kd.R_below z57_ hb); replace BK146 := a0_ (blk_below z55_ hb); replace HB := a0_ (below_step z53_ hb); (try clear hb); (try clear hb2); (try clear hk); (try clear hi)))
          go_ret
          exact qpx60_
        ·replace c26 := Bool.eq_false_iff.mpr c26
         subst c26
         rw [if_neg (show ¬ (false = true) from z17_)] at H
         obtain rfl := Option.some.inj H
         obtain ⟨hcz40_0, hcz40_1, hcz40_2, hcz40_3, hcz40_4, hcz40_5, hcz40_6, hcz40_7, hcz40_8, hcz40_9, hcz40_10, hcz40_11, hcz40_12, hcz40_13⟩ := bc14_ BK146.out
         obtain ⟨hfz40_0, hfz40_1, hfz40_2, hfz40_3, hfz40_4, hfz40_5, hfz40_6, hfz40_7, hfz40_8, hfz40_9, hfz40_10, hfz40_11, hfz40_12, hfz40_13⟩ := bf14_ BK146.out
         go_wp2_with (first | (go_at_call 79; (with_reducible refine (msg_placed.calls k2 _ _ l0_7 a0_8 false _ ?side1 ?side2 A25.out).mono ?_); (case side1 => exact z58_); (case side2 => exact z59_); rintro e w41 ⟨rfl, hb⟩; replace HO_49 := a0_ (Kd.R_below z57_ hb); replace BK146 := a0_ (blk_below z55_ hb); replace HB := a0_ (below_step z53_ hb); (try clear hb); (try clear hb2); (try clear hk); (try clear hi)))
         go_ret
         exact qpx60_
       ·rw [if_neg c24] at H
        have c24b0 : ((l0_2.length : Int) == 0) = false := beq_eq_false_iff_ne.mpr c24
        have c24b1 : ((l0_2.length : Int) != 0) = true := bne_iff_ne.mpr c24
        have c24b2 : ¬ (l0_2 = []) := fun h_ => c24 (by rw [h_]; rfl)
        replace H := Option.bind_eq_some_iff.mp H
        obtain ⟨t159, A420, H⟩ := H
        try dsimp only at H
        have A42 := a0_ A420
        clear A420
        by_cases c43 : t159 = true
        ·subst c43
         rw [if_pos rfl] at H
         replace H := Option.bind_eq_some_iff.mp H
         obtain ⟨t160, A440, H⟩ := H
         try dsimp only at H
         have A44 := a0_ A440
         clear A440
         by_cases c45 : t160 = true
         ·subst c45
          rw [if_pos rfl] at H
          replace H := Option.bind_eq_some_iff.mp H
          obtain ⟨t161, A460, H⟩ := H
          try dsimp only at H
          have A46 := a0_ A460
          clear A460
          by_cases c47 : t161 = true
          ·subst c47
           rw [if_pos rfl] at H
           replace H := Option.bind_eq_some_iff.mp H
           obtain ⟨t162, A480, H⟩ := H
           try dsimp only at H
           have A48 := a0_ A480
           clear A480
           obtain rfl := Option.some.inj H
           obtain ⟨hcz49_0, hcz49_1, hcz49_2, hcz49_3, hcz49_4, hcz49_5, hcz49_6, hcz49_7, hcz49_8, hcz49_9, hcz49_10, hcz49_11, hcz49_12, hcz49_13⟩ := bc14_ BK146.out
           obtain ⟨hfz49_0, hfz49_1, hfz49_2, hfz49_3, hfz49_4, hfz49_5, hfz49_6, hfz49_7, hfz49_8, hfz49_9, hfz49_10, hfz49_11, hfz49_12, hfz49_13⟩ := bf14_ BK146.out
           go_wp2_with (first | (go_at_call 72; (with_reducible refine (line_Right.calls k2 _ _ l0_2 true _ ?side1 ?side2 A42.out).mono ?_); (case side1 => exact z64_); (case side2 => exact z65_); rintro e w50 ⟨rfl, hb⟩; replace HO_49 := a0_ (Kd.R_below z57_ hb); replace BK146 := a0_ (blk_below z55_ hb); replace HB := a0_ (below_step z53_ hb); (try clear hb); (try clear hb2); (try clear hk); (try clear hi); obtain ⟨hcz51_0, hcz51_1, hcz51_2, hcz51_3, hcz51_4, hcz51_5, hcz51_6, hcz51_7, hcz51_8, hcz51_9, hcz51_10, hcz51_11, hcz51_12, hcz51_13⟩ := bc14_ BK146.out) | (go_at_call 79; (with_reducible refine (msg_placed.calls k2 _ _ l0_7 a0_8 true _ ?side1 ?side2 A44.out).mono ?_); (case side1 => exact z58_); (case side2 => exact z59_); rintro e w52 ⟨rfl, hb⟩; replace HO_49 := a0_ (Kd.R_below z57_ hb); replace BK146 := a0_ (blk_below z55_ hb); replace HB := a0_ (below_step z53_ hb); (try clear hb); (try clear hb2); (try clear hk); (try clear hi); obtain ⟨hcz53_0, hcz53_1, hcz53_2, hcz53_3, hcz53_4, hcz53_5, hcz53_6, hcz53_7, hcz53_8, hcz53_9, hcz53_10, hcz53_11, hcz53_12, hcz53_13⟩ := bc14_ BK146.out) | (go_at_call 74; (with_reducible refine (dirty_Right.calls k2 _ _ l0_9 true _ ?side1 ?side2 A46.out).mono ?_); (case side1 => exact z60_); (case side2 => exact z61_); rintro e w54 ⟨rfl, hb⟩; replace HO_49 := a0_ (Kd.R_below z57_ hb); replace BK146 := a0_ (blk_below z55_ hb); replace HB := a0_ (below_step z53_ hb); (try clear hb); (try clear hb2); (try clear hk); (try clear hi); obtain ⟨hcz55_0, hcz55_1, hcz55_2, hcz55_3, hcz55_4, hcz55_5, hcz55_6, hcz55_7, hcz55_8, hcz55_9, hcz55_10, hcz55_11, hcz55_12, hcz55_13⟩ := bc14_ BK146.out) | (go_at_call 76; (with_reducible refine (msg_writable.calls k2 _ _ l0_13 t162 _ ?side1 ?side2 A48.out).mono ?_); (case side1 => exact z62_); (case side2 => exact z63_); rintro e w56 ⟨rfl, hb⟩; replace HO_49 := a0_ (Kd.R_below z57_ hb); replace BK146 := a0_ (blk_below z55_ hb); replace HB := a0_ (below_step z53_ hb); (try clear hb); (try clear hb2); (try clear hk); (try clear hi)))
           go_ret
           exact qpx60_
          ·replace c47 := Bool.eq_false_iff.mpr c47
           subst c47
           rw [if_neg (show ¬ (false = true) from z17_)] at H
           obtain rfl := Option.some.inj H
           obtain ⟨hcz57_0, hcz57_1, hcz57_2, hcz57_3, hcz57_4, hcz57_5, hcz57_6, hcz57_7, hcz57_8, hcz57_9, hcz57_10, hcz57_11, hcz57_12, hcz57_13⟩ := bc14_ BK146.out
           obtain ⟨hfz57_0, hfz57_1, hfz57_2, hfz57_3, hfz57_4, hfz57_5, hfz57_6, hfz57_7, hfz57_8, hfz57_9, hfz57_10, hfz57_11, hfz57_12, hfz57_13⟩ := bf14_ BK146.out
           go_wp2_with (first | (go_at_call 72; (with_reducible refine (line_Right.calls k2 _ _ l0_2 true _ ?side1 ?side2 A42.out).mono ?_); (case side1 => exact z64_); (case side2 => exact z65_); rintro e w58 ⟨rfl, hb⟩; replace HO_49 := a0_ (Kd.R_below z57_ hb); replace BK146 := a0_ (blk_below z55_ hb); replace HB := a0_ (below_step z53_ hb); (try clear hb); (try clear hb2); (try clear hk); (try clear hi); obtain ⟨hcz59_0, hcz59_1, hcz59_2, hcz59_3, hcz59_4, hcz59_5, hcz59_6, hcz59_7, hcz59_8, hcz59_9, hcz59_10, hcz59_11, hcz59_12, hcz59_13⟩ := bc14_ BK146.out) | (go_at_call 79; (with_reducible refine (msg_placed.calls k2 _ _ l0_7 a0_8 true _ ?side1 ?side2 A44.out).mono ?_); (case side1 => exact z58_); (case side2 => exact z59_); rintro e w60 ⟨rfl, hb⟩; replace HO_49 := a0_ (Kd.R_below z57_ hb); replace BK146 := a0_ (blk_below z55_ hb); replace HB := a0_ (below_step z53_ hb); (try clear hb); (try clear hb2); (try clear hk); (try clear hi); obtain ⟨hcz61_0, hcz61_1, hcz61_2, hcz61_3, hcz61_4, hcz61_5, hcz61_6, hcz61_7, hcz61_8, hcz61_9, hcz61_10, hcz61_11, hcz61_12, hcz61_13⟩ := bc14_ BK146.out) | (go_at_call 74; (with_reducible refine (dirty_Right.calls k2 _ _ l0_9 false _ ?side1 ?side2 A46.out).mono ?_); (case side1 => exact z60_); (case side2 => exact z61_); rintro e w62 ⟨rfl, hb⟩; replace HO_49 := a0_ (Kd.R_below z57_ hb); replace BK146 := a0_ (blk_below z55_ hb); replace HB := a0_ (below_step z53_ hb); (try clear hb); (try clear hb2); (try clear hk); (try clear hi)))
           go_ret
           exact qpx60_
         ·replace c45 := Bool.eq_false_iff.mpr c45
          subst c45
          rw [if_neg (show ¬ (false = true) from z17_)] at H
          obtain rfl := Option.some.inj H
          obtain ⟨hcz63_0, hcz63_1, hcz63_2, hcz63_3, hcz63_4, hcz63_5, hcz63_6, hcz63_7, hcz63_8, hcz63_9, hcz63_10, hcz63_11, hcz63_12, hcz63_13⟩ := bc14_ BK146.out
          obtain ⟨hfz63_0, hfz63_1, hfz63_2, hfz63_3, hfz63_4, hfz63_5, hfz63_6, hfz63_7, hfz63_8, hfz63_9, hfz63_10, hfz63_11, hfz63_12, hfz63_13⟩ := bf14_ BK146.out
          go_wp2_with (first | (go_at_call 72; (with_reducible refine (line_Right.calls k2 _ _ l0_2 true _ ?side1 ?side2 A42.out).mono ?_); (case side1 => exact z64_); (case side2 => exact z65_); rintro e w64 ⟨rfl, hb⟩; replace HO_49 := a0_ (Kd.R_below z57_ hb); replace BK146 := a0_ (blk_below z55_ hb); replace HB := a0_ (below_step z53_ hb); (try clear hb); (try clear hb2); (try clear hk); (try clear hi); obtain ⟨hcz65_0, hcz65_1, hcz65_2, hcz65_3, hcz65_4, hcz65_5, hcz65_6, hcz65_7, hcz65_8, hcz65_9, hcz65_10, hcz65_11, hcz65_12, hcz65_13⟩ := bc14_ BK146.out) | (go_at_call 79; (with_reducible refine (msg_placed.calls k2 _ _ l0_7 a0_8 false _ ?side1 ?side2 A44.out).mono ?_); (case side1 => exact z58_); (case side2 => exact z59_); rintro e w66 ⟨rfl, hb⟩; replace HO_49 := a0_ (Kd.R_below z57_ hb); replace BK146 := a0_ (blk_below z55_ hb); replace HB := a0_ (below_step z53_ hb); (try clear hb); (try clear hb2); (try clear hk); (try clear hi)))
          go_ret
          exact qpx60_
        ·replace c43 := Bool.eq_false_iff.mpr c43
         subst c43
         rw [if_neg (show ¬ (false = true) from z17_)] at H
         obtain rfl := Option.some.inj H
         obtain ⟨hcz67_0, hcz67_1, hcz67_2, hcz67_3, hcz67_4, hcz67_5, hcz67_6, hcz67_7, hcz67_8, hcz67_9, hcz67_10, hcz67_11, hcz67_12, hcz67_13⟩ := bc14_ BK146.out
         obtain ⟨hfz67_0, hfz67_1, hfz67_2, hfz67_3, hfz67_4, hfz67_5, hfz67_6, hfz67_7, hfz67_8, hfz67_9, hfz67_10, hfz67_11, hfz67_12, hfz67_13⟩ := bf14_ BK146.out
         go_wp2_with (first | (go_at_call 72; (with_reducible refine (line_Right.calls k2 _ _ l0_2 false _ ?side1 ?side2 A42.out).mono ?_); (case side1 => exact z64_); (case side2 => exact z65_); rintro e w68 ⟨rfl, hb⟩; replace HO_49 := a0_ (Kd.R_below z57_ hb); replace BK146 := a0_ (blk_below z55_ hb); replace HB := a0_ (below_step z53_ hb); (try clear hb); (try clear hb2); (try clear hk); (try clear hi)))
         go_ret
         exact qpx60_
      ·replace c23 := Bool.eq_false_iff.mpr c23
       subst c23
       rw [if_neg (show ¬ (false = true) from z17_)] at H
       obtain rfl := Option.some.inj H
       go_wp2
       go_ret
       exact qpx60_
end Go.Proofs.Ytecfndblgefhdaa.P
