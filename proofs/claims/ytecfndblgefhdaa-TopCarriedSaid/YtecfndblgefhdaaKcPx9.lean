import Derived.Test.YtecfndblgefhdaaKcPx6
import Derived.Test.YtecfndblgefhdaaKcPx8
namespace Go.Proofs.Ytecfndblgefhdaa.P
open Go.RowKit Go.Proofs.YtecfndblgefhdaaW.PrintWords Go.Proofs.YtecfndblgefhdaaW.PrintLast Go.Proofs.YtecfndblgefhdaaW.PrintMore
attribute [local go_sem] max2_int min2_int max_two min_two max_three min_three max_four min_four
set_option linter.unusedVariables false
set_option linter.unusedSimpArgs false
mutual
def msg_Bytes.j0 : Nat → ByteArray → ByteArray → ByteArray → ByteArray → Int → Int → Int → List (S160) → Int → Int → Int → Bool → List (S160) → Int → List (S166) → List Int → Int → Int → List (S120) → Option (ByteArray × Int)
 | 0, _, _, _, _, _, _, _, _, _, _, _, _, _, _, _, _, _, _, _ => none
 | k + 1, x4, x6, x8, x10, x12, x200000, x200001, x200002, x200003, x200004, x200005, x200006, x200007, x200008, x200009, x200010, x200011, x200012, x200013 => msg_Bytes.l0 k x4 x6 x8 x10 x12 (([((x200010.length : Int)) % 256] : List Int)) x200010 (x200010.length : Int) 0 x200000 x200001 x200002 x200003 x200004 x200005 x200006 x200007 x200008 x200009 x200010 x200011 x200012 x200013
def msg_Bytes.l0 : Nat → ByteArray → ByteArray → ByteArray → ByteArray → Int → List Int → List Int → Int → Int → Int → Int → List (S160) → Int → Int → Int → Bool → List (S160) → Int → List (S166) → List Int → Int → Int → List (S120) → Option (ByteArray × Int)
 | 0, _, _, _, _, _, _, _, _, _, _, _, _, _, _, _, _, _, _, _, _, _, _, _ => none
 | k + 1, x4, x6, x8, x10, x12, x13, x53, x54, x55, x200000, x200001, x200002, x200003, x200004, x200005, x200006, x200007, x200008, x200009, x200010, x200011, x200012, x200013 => if x55 < x54 then (if 0 ≤ x55 then (if x55 < (x53.length : Int) then (if x13.length < 140737488355328 then (msg_Bytes.l0 k x4 x6 x8 x10 x12 (x13 ++ [(rd x53 x55) % 256]) x53 x54 (wrap64 (x55 + 1)) x200000 x200001 x200002 x200003 x200004 x200005 x200006 x200007 x200008 x200009 x200010 x200011 x200012 x200013) else (none)) else (none)) else (none)) else ((some (([(x200000) % 256] : List Int) : List Int)).bind fun y216 => ((msg_eight.f k (([x200001] : List Int))).bind fun t222 => (if (strOfNums y216).size + t222.size ≤ 9223372036854775807 then (if ((strOfNums y216) ++ t222).size + x4.size ≤ 9223372036854775807 then ((msg_eight.f k (([x200003, x200004, x200005] : List Int))).bind fun t226 => (if (((strOfNums y216) ++ t222) ++ x4).size + t226.size ≤ 9223372036854775807 then ((some (([x12] : List Int) : List Int)).bind fun y227 => (if ((((strOfNums y216) ++ t222) ++ x4) ++ t226).size + (strOfNums y227).size ≤ 9223372036854775807 then (if (((((strOfNums y216) ++ t222) ++ x4) ++ t226) ++ (strOfNums y227)).size + x6.size ≤ 9223372036854775807 then ((msg_eight.f k (([x200008] : List Int))).bind fun t233 => (if ((((((strOfNums y216) ++ t222) ++ x4) ++ t226) ++ (strOfNums y227)) ++ x6).size + t233.size ≤ 9223372036854775807 then (if (((((((strOfNums y216) ++ t222) ++ x4) ++ t226) ++ (strOfNums y227)) ++ x6) ++ t233).size + x8.size ≤ 9223372036854775807 then (if ((((((((strOfNums y216) ++ t222) ++ x4) ++ t226) ++ (strOfNums y227)) ++ x6) ++ t233) ++ x8).size + (strOfNums x13).size ≤ 9223372036854775807 then ((msg_eight.f k (([x200011, x200012] : List Int))).bind fun t237 => (if (((((((((strOfNums y216) ++ t222) ++ x4) ++ t226) ++ (strOfNums y227)) ++ x6) ++ t233) ++ x8) ++ (strOfNums x13)).size + t237.size ≤ 9223372036854775807 then (if ((((((((((strOfNums y216) ++ t222) ++ x4) ++ t226) ++ (strOfNums y227)) ++ x6) ++ t233) ++ x8) ++ (strOfNums x13)) ++ t237).size + x10.size ≤ 9223372036854775807 then (some (((((((((((strOfNums y216) ++ t222) ++ x4) ++ t226) ++ (strOfNums y227)) ++ x6) ++ t233) ++ x8) ++ (strOfNums x13)) ++ t237) ++ x10, 0)) else (none)) else (none))) else (none)) else (none)) else (none))) else (none)) else (none))) else (none))) else (none)) else (none))))
end
def msg_Bytes.f (k : Nat) (a0_0 : Int) (a0_1 : Int) (l0_2 : List (S160)) (a0_3 : Int) (a0_4 : Int) (a0_5 : Int) (a0_6 : Bool) (l0_7 : List (S160)) (a0_8 : Int) (l0_9 : List (S166)) (l0_10 : List Int) (a0_11 : Int) (a0_12 : Int) (l0_13 : List (S120)) : Option (ByteArray × Int) := (msg_Right.f k a0_0 a0_1 l0_2 a0_3 a0_4 a0_5 a0_6 l0_7 a0_8 l0_9 l0_10 a0_11 a0_12 l0_13).bind fun t200 => (if t200 = true then ((msg_PutLine.f k l0_2).bind fun bt201 => ((msg_PutLine.f k l0_7).bind fun bt203 => ((dirty_Bytes.f k l0_9).bind fun bt205 => ((msg_PutWrites.f k l0_13).bind fun bt207 => (if a0_6 = true then (msg_Bytes.j0 k bt201.1 bt203.1 bt205.1 bt207.1 1 a0_0 a0_1 l0_2 a0_3 a0_4 a0_5 a0_6 l0_7 a0_8 l0_9 l0_10 a0_11 a0_12 l0_13) else (msg_Bytes.j0 k bt201.1 bt203.1 bt205.1 bt207.1 0 a0_0 a0_1 l0_2 a0_3 a0_4 a0_5 a0_6 l0_7 a0_8 l0_9 l0_10 a0_11 a0_12 l0_13)))))) else (some ((⟨#[]⟩ : ByteArray), 1)))
set_option maxHeartbeats 8000000 in
set_option maxRecDepth 100000 in
theorem msg_Bytes.calls (k : Nat) (a0_0 : Int) (a0_1 : Int) (A0_2 : Option Addr) (c0_2 : Nat) (l0_2 : List (S160)) (a0_3 : Int) (a0_4 : Int) (a0_5 : Int) (a0_6 : Bool) (A0_7 : Option Addr) (c0_7 : Nat) (l0_7 : List (S160)) (a0_8 : Int) (A0_9 : Option Addr) (c0_9 : Nat) (l0_9 : List (S166)) (A0_10 : Option Addr) (c0_10 : Nat) (l0_10 : List Int) (a0_11 : Int) (a0_12 : Int) (A0_13 : Option Addr) (c0_13 : Nat) (l0_13 : List (S120)) (r1 : ByteArray) (r2 : Int) (w : World) (hr0_2 : Kd.C k160 w A0_2 l0_2.length l0_2) (hc0_2 : l0_2.length ≤ c0_2) (hr0_7 : Kd.C k160 w A0_7 l0_7.length l0_7) (hc0_7 : l0_7.length ≤ c0_7) (hr0_9 : Kd.C k166 w A0_9 l0_9.length l0_9) (hc0_9 : l0_9.length ≤ c0_9) (hr0_10 : Kd.C (Kd.int .i64) w A0_10 l0_10.length l0_10) (hc0_10 : l0_10.length ≤ c0_10) (hr0_13 : Kd.C k120 w A0_13 l0_13.length l0_13) (hc0_13 : l0_13.length ≤ c0_13) (h : msg_Bytes.f k a0_0 a0_1 l0_2 a0_3 a0_4 a0_5 a0_6 l0_7 a0_8 l0_9 l0_10 a0_11 a0_12 l0_13 = some (r1, r2)) :
  Calls Try.prog 10 #[.agg #[.int .i64 a0_0, .int .i64 a0_1, .slice A0_2 l0_2.length c0_2, .int .i64 a0_3, .int .i64 a0_4, .int .i64 a0_5, .bool a0_6, .slice A0_7 l0_7.length c0_7, .int .i64 a0_8, .slice A0_9 l0_9.length c0_9, .slice A0_10 l0_10.length c0_10, .int .i64 a0_11, .int .i64 a0_12, .slice A0_13 l0_13.length c0_13]] w fun e w' => e = .returned (.tuple #[.string r1, .int .i64 r2]) ∧ Below w.heap.size w w' := by
 have hu53 := Try.underlying53
 have HR0_2 := a0_ hr0_2
 have HC0_2 := a0_ hc0_2
 clear hr0_2 hc0_2
 have HR0_7 := a0_ hr0_7
 have HC0_7 := a0_ hc0_7
 clear hr0_7 hc0_7
 have HR0_9 := a0_ hr0_9
 have HC0_9 := a0_ hc0_9
 clear hr0_9 hc0_9
 have HR0_10 := a0_ hr0_10
 have HC0_10 := a0_ hc0_10
 clear hr0_10 hc0_10
 have HR0_13 := a0_ hr0_13
 have HC0_13 := a0_ hc0_13
 clear hr0_13 hc0_13
 have HB := a0_ (Below.refl w.heap.size w)
 have H : ((msg_Right.f k a0_0 a0_1 l0_2 a0_3 a0_4 a0_5 a0_6 l0_7 a0_8 l0_9 l0_10 a0_11 a0_12 l0_13).bind fun t200 => (if t200 = true then ((msg_PutLine.f k l0_2).bind fun bt201 => ((msg_PutLine.f k l0_7).bind fun bt203 => ((dirty_Bytes.f k l0_9).bind fun bt205 => ((msg_PutWrites.f k l0_13).bind fun bt207 => (if a0_6 = true then (msg_Bytes.j0 k bt201.1 bt203.1 bt205.1 bt207.1 1 a0_0 a0_1 l0_2 a0_3 a0_4 a0_5 a0_6 l0_7 a0_8 l0_9 l0_10 a0_11 a0_12 l0_13) else (msg_Bytes.j0 k bt201.1 bt203.1 bt205.1 bt207.1 0 a0_0 a0_1 l0_2 a0_3 a0_4 a0_5 a0_6 l0_7 a0_8 l0_9 l0_10 a0_11 a0_12 l0_13)))))) else (some ((⟨#[]⟩ : ByteArray), 1)))) = some (r1, r2) := h
 clear h
 replace H := Option.bind_eq_some_iff.mp H
 obtain ⟨t200, A20, H⟩ := H
 try dsimp only at H
 have A2 := a0_ A20
 clear A20
 by_cases c3 : t200 = true
 ·subst c3
  rw [if_pos rfl] at H
  replace H := Option.bind_eq_some_iff.mp H
  obtain ⟨⟨t201, t202⟩, A40, H⟩ := H
  try dsimp only at H
  have A4 := a0_ A40
  clear A40
  replace H := Option.bind_eq_some_iff.mp H
  obtain ⟨⟨t203, t204⟩, A50, H⟩ := H
  try dsimp only at H
  have A5 := a0_ A50
  clear A50
  replace H := Option.bind_eq_some_iff.mp H
  obtain ⟨⟨t205, t206⟩, A60, H⟩ := H
  try dsimp only at H
  have A6 := a0_ A60
  clear A60
  replace H := Option.bind_eq_some_iff.mp H
  obtain ⟨⟨t207, t208⟩, A70, H⟩ := H
  try dsimp only at H
  have A7 := a0_ A70
  clear A70
  have HC8 := a0_ H
  clear H
  go_enter Try.func10, Try.ntmps10
  go_upto_if 46 with (first | ((with_reducible refine gate_dst (N := 1) rfl ?_); refine box_event ?hg (N := 1) ?hd (cs := #[.int .i64 a0_0, .int .i64 a0_1, .slice A0_2 l0_2.length c0_2, .int .i64 a0_3, .int .i64 a0_4, .int .i64 a0_5, .bool a0_6, .slice A0_7 l0_7.length c0_7, .int .i64 a0_8, .slice A0_9 l0_9.length c0_9, .slice A0_10 l0_10.length c0_10, .int .i64 a0_11, .int .i64 a0_12, .slice A0_13 l0_13.length c0_13]) (t := 53) ?hr ?_; (case hd => rfl); (case hg => rfl); (case hr => exact z7_); intro gb199 hg w9 hbox hb; have n0_ := a0_ (below_step z6_ hb); have n1_ := a0_ (hbox); have n2_ := a0_ ((z8_ : w.heap.size ≤ gb199)); have n3_ := a0_ ((z8_ : w.heap.size ≤ gb199)); clear HB; have HB := n0_; have BK199 := n1_; have GW199 := n2_; have GE199 := n3_; clear n0_ n1_ n2_ n3_; clear hb hbox hg; obtain ⟨hcz10_0, hcz10_1, hcz10_2, hcz10_3, hcz10_4, hcz10_5, hcz10_6, hcz10_7, hcz10_8, hcz10_9, hcz10_10, hcz10_11, hcz10_12, hcz10_13⟩ := bc14_ BK199.out) | ((with_reducible refine gate_callee (f := 37) rfl ?_); refine goesL_ (some 17) rfl rfl Try.func37 z11_ rfl #[.agg #[.int .i64 a0_0, .int .i64 a0_1, .slice A0_2 l0_2.length c0_2, .int .i64 a0_3, .int .i64 a0_4, .int .i64 a0_5, .bool a0_6, .slice A0_7 l0_7.length c0_7, .int .i64 a0_8, .slice A0_9 l0_9.length c0_9, .slice A0_10 l0_10.length c0_10, .int .i64 a0_11, .int .i64 a0_12, .slice A0_13 l0_13.length c0_13]] rfl z12_ ?_; (with_reducible refine (msg_Right.calls k a0_0 a0_1 _ _ l0_2 a0_3 a0_4 a0_5 a0_6 _ _ l0_7 a0_8 _ _ l0_9 _ _ l0_10 a0_11 a0_12 _ _ l0_13 true _ ?side1 ?side2 ?side3 ?side4 ?side5 ?side6 ?side7 ?side8 ?side9 ?side10 A2.out).mono ?_); (case side1 => exact z64_); (case side2 => exact z65_); (case side3 => exact z58_); (case side4 => exact z59_); (case side5 => exact z60_); (case side6 => exact z61_); (case side7 => exact z54_); (case side8 => exact HC0_10.out); (case side9 => exact z62_); (case side10 => exact z63_); rintro e w11 ⟨rfl, hb⟩; refine ⟨_, rfl, ?_⟩; replace BK199 := a0_ (blk_below z76_ hb); replace HB := a0_ (below_step z77_ hb); (try clear hb); (try clear hb2); (try clear hk); (try clear hi); obtain ⟨hcz12_0, hcz12_1, hcz12_2, hcz12_3, hcz12_4, hcz12_5, hcz12_6, hcz12_7, hcz12_8, hcz12_9, hcz12_10, hcz12_11, hcz12_12, hcz12_13⟩ := bc14_ BK199.out) | ((with_reducible refine gate_callee (f := 38) rfl ?_); refine goesL_ (some 22) rfl rfl Try.func38 z11_ rfl #[.slice A0_2 l0_2.length c0_2] rfl z12_ ?_; (with_reducible refine (msg_PutLine.calls k _ _ l0_2 t201 t202 _ ?side1 ?side2 A4.out).mono ?_); (case side1 => exact z64_); (case side2 => exact z65_); rintro e w13 ⟨rfl, hb⟩; refine ⟨_, rfl, ?_⟩; replace BK199 := a0_ (blk_below z76_ hb); replace HB := a0_ (below_step z77_ hb); (try clear hb); (try clear hb2); (try clear hk); (try clear hi); obtain ⟨hcz14_0, hcz14_1, hcz14_2, hcz14_3, hcz14_4, hcz14_5, hcz14_6, hcz14_7, hcz14_8, hcz14_9, hcz14_10, hcz14_11, hcz14_12, hcz14_13⟩ := bc14_ BK199.out) | ((with_reducible refine gate_callee (f := 38) rfl ?_); refine goesL_ (some 29) rfl rfl Try.func38 z11_ rfl #[.slice A0_7 l0_7.length c0_7] rfl z12_ ?_; (with_reducible refine (msg_PutLine.calls k _ _ l0_7 t203 t204 _ ?side1 ?side2 A5.out).mono ?_); (case side1 => exact z58_); (case side2 => exact z59_); rintro e w15 ⟨rfl, hb⟩; refine ⟨_, rfl, ?_⟩; replace BK199 := a0_ (blk_below z76_ hb); replace HB := a0_ (below_step z77_ hb); (try clear hb); (try clear hb2); (try clear hk); (try clear hi); obtain ⟨hcz16_0, hcz16_1, hcz16_2, hcz16_3, hcz16_4, hcz16_5, hcz16_6, hcz16_7, hcz16_8, hcz16_9, hcz16_10, hcz16_11, hcz16_12, hcz16_13⟩ := bc14_ BK199.out) | ((with_reducible refine gate_callee (f := 39) rfl ?_); refine goesL_ (some 35) rfl rfl Try.func39 z11_ rfl #[.slice A0_9 l0_9.length c0_9] rfl z12_ ?_; (with_reducible refine (dirty_Bytes.calls k _ _ l0_9 t205 t206 _ ?side1 ?side2 A6.out).mono ?_); (case side1 => exact z60_); (case side2 => exact z61_); rintro e w17 ⟨rfl, hb⟩; refine ⟨_, rfl, ?_⟩; replace BK199 := a0_ (blk_below z76_ hb); replace HB := a0_ (below_step z77_ hb); (try clear hb); (try clear hb2); (try clear hk); (try clear hi); obtain ⟨hcz18_0, hcz18_1, hcz18_2, hcz18_3, hcz18_4, hcz18_5, hcz18_6, hcz18_7, hcz18_8, hcz18_9, hcz18_10, hcz18_11, hcz18_12, hcz18_13⟩ := bc14_ BK199.out) | ((with_reducible refine gate_callee (f := 40) rfl ?_); refine goesL_ (some 42) rfl rfl Try.func40 z11_ rfl #[.slice A0_13 l0_13.length c0_13] rfl z12_ ?_; (with_reducible refine (msg_PutWrites.calls k _ _ l0_13 t207 t208 _ ?side1 ?side2 A7.out).mono ?_); (case side1 => exact z62_); (case side2 => exact z63_); rintro e w19 ⟨rfl, hb⟩; refine ⟨_, rfl, ?_⟩; replace BK199 := a0_ (blk_below z76_ hb); replace HB := a0_ (below_step z77_ hb); (try clear hb); (try clear hb2); (try clear hk); (try clear hi); obtain ⟨hcz20_0, hcz20_1, hcz20_2, hcz20_3, hcz20_4, hcz20_5, hcz20_6, hcz20_7, hcz20_8, hcz20_9, hcz20_10, hcz20_11, hcz20_12, hcz20_13⟩ := bc14_ BK199.out))
  (try simp only [Act.put, List.setIfInBounds_toArray, List.set_cons_zero, List.set_cons_succ])
  go_cut [12] (fun v12 wc => ∃ (kq : Nat) (x12_7 : Int), v12 = .int .u8 x12_7 ∧ Aside0 (msg_Bytes.j0 kq t201 t203 t205 t207 x12_7 a0_0 a0_1 l0_2 a0_3 a0_4 a0_5 a0_6 l0_7 a0_8 l0_9 l0_10 a0_11 a0_12 l0_13 = some (r1, r2)) ∧ Aside0 (kq ≤ k) ∧ Aside0 (wc.heap[gb199]? = some (.cells #[.int .i64 a0_0, .int .i64 a0_1, (.slice A0_2 l0_2.length c0_2), .int .i64 a0_3, .int .i64 a0_4, .int .i64 a0_5, .bool a0_6, (.slice A0_7 l0_7.length c0_7), .int .i64 a0_8, (.slice A0_9 l0_9.length c0_9), (.slice A0_10 l0_10.length c0_10), .int .i64 a0_11, .int .i64 a0_12, (.slice A0_13 l0_13.length c0_13)] 53 (0, 0))) ∧ Aside0 (Below w.heap.size w wc))
  case first =>
   have H := HC8.out
   clear HC8
   by_cases c21 : a0_6 = true
   ·subst c21
    rw [if_pos rfl] at H
    have H' := a0_ H
    clear H
    go_wp2
    go_meet
    case rel => exact ⟨_, (1), z9_, H', ⟨z18_⟩, ⟨z76_⟩, ⟨z77_⟩⟩
   ·replace c21 := Bool.eq_false_iff.mpr c21
    subst c21
    rw [if_neg (show ¬ (false = true) from z17_)] at H
    have H' := a0_ H
    clear H
    go_wp2
    go_meet
    case rel => exact ⟨_, (0), z9_, H', ⟨z18_⟩, ⟨z76_⟩, ⟨z77_⟩⟩
  case rest =>
   clear HC8
   obtain ⟨kq, x12_7, rfl, HA, HJ7, BK199, HB⟩ := hcut
   cases kq with
   | zero => exact absurd HA.out (by simp [msg_Bytes.j0])
   | succ kj7 =>
    have H := HA.out
    clear HA
    simp only [msg_Bytes.j0] at H
    obtain ⟨y209, hy209⟩ : ∃ y_ : List Int, y_ = (([((l0_10.length : Int)) % 256] : List Int)) := ⟨_, rfl⟩
    replace H : (msg_Bytes.l0 kj7 t201 t203 t205 t207 x12_7 y209 l0_10 (l0_10.length : Int) 0 a0_0 a0_1 l0_2 a0_3 a0_4 a0_5 a0_6 l0_7 a0_8 l0_9 l0_10 a0_11 a0_12 l0_13) = some (r1, r2) := by first | (rw [hy209]; with_reducible exact H) | (have H2_ := (Option.bind_some _ _).symm.trans H; rw [hy209]; with_reducible exact H2_) | (have H2_ := (Option.bind_some _ _).symm.trans H; with_reducible exact H2_) | with_reducible exact H | (rw [hy209]; exact H) | exact H
    have Ny209 := a0_ hy209
    clear hy209
    have H' := a0_ H
    clear H
    obtain ⟨hcz22_0, hcz22_1, hcz22_2, hcz22_3, hcz22_4, hcz22_5, hcz22_6, hcz22_7, hcz22_8, hcz22_9, hcz22_10, hcz22_11, hcz22_12, hcz22_13⟩ := bc14_ BK199.out
    obtain ⟨hfz22_0, hfz22_1, hfz22_2, hfz22_3, hfz22_4, hfz22_5, hfz22_6, hfz22_7, hfz22_8, hfz22_9, hfz22_10, hfz22_11, hfz22_12, hfz22_13⟩ := bf14_ BK199.out
    go_wp2_with (first | ((with_reducible refine gate_dst (N := 51) rfl ?_); refine Kd.R_lit (Kd.int .u8) _ 5 ?hg (N := 51) ?hd (xs := ([((l0_10.length : Int)) % 256] : List Int)) (inner := [.int .u8 (((l0_10.length : Int)) % 256)]) (ok := fun _ => True) (okp := fun _ => True) ?hr ?hp (fun _ hk => hk) trivial (Below.refl _ _) (Nat.le_refl _) (by simp) ?_; (case hd => rfl); (case hg => rfl); (case hr => exact z7_); (case hp => exact (Reps.one (show Kd.M (Kd.int .u8) _ _ _ (((l0_10.length : Int)) % 256) [.int .u8 (((l0_10.length : Int)) % 256)] from rfl) (Reps.none _ _))); intro v210 w23 ho24 hb hg_ hnew_; clear hg_ hnew_; (first | rw [← Ny209.out] at ho24 | (simp only [Int.reduceToNat] at ho24; rw [← Ny209.out] at ho24)); have HO211 := a0_ (Kd.R_lower ho24 (below_size z77_)); replace BK199 := a0_ (blk_below z76_ hb); replace HB := a0_ (below_step z77_ hb); clear hb ho24; obtain ⟨hcz25_0, hcz25_1, hcz25_2, hcz25_3, hcz25_4, hcz25_5, hcz25_6, hcz25_7, hcz25_8, hcz25_9, hcz25_10, hcz25_11, hcz25_12, hcz25_13⟩ := bc14_ BK199.out))
    go_loopg [13, 55] kj7 (fun kq v13 v55 w' => ∃ (x13_2 : List Int) (x55_2 : Int), v55 = .int .i64 x55_2 ∧ Aside0 (msg_Bytes.l0 kq t201 t203 t205 t207 x12_7 x13_2 l0_10 (l0_10.length : Int) x55_2 a0_0 a0_1 l0_2 a0_3 a0_4 a0_5 a0_6 l0_7 a0_8 l0_9 l0_10 a0_11 a0_12 l0_13 = some (r1, r2)) ∧ Aside0 (kq ≤ kj7) ∧ Aside0 (Kd.R (Kd.int .u8) 5 w' w.heap.size (fun _ => True) v13 x13_2) ∧ Aside0 (w'.heap[gb199]? = some (.cells #[.int .i64 a0_0, .int .i64 a0_1, (.slice A0_2 l0_2.length c0_2), .int .i64 a0_3, .int .i64 a0_4, .int .i64 a0_5, .bool a0_6, (.slice A0_7 l0_7.length c0_7), .int .i64 a0_8, (.slice A0_9 l0_9.length c0_9), (.slice A0_10 l0_10.length c0_10), .int .i64 a0_11, .int .i64 a0_12, (.slice A0_13 l0_13.length c0_13)] 53 (0, 0))) ∧ Aside0 (Below w.heap.size w w'))
    case atStart => exact ⟨(y209), (0), z9_, H', ⟨Nat.le_refl _⟩, ⟨by (with_reducible repeat (first | apply Kd.R_alloc | apply Kd.R_drewN | apply Kd.R_drew)); exact HO211.out⟩, ⟨z76_⟩, ⟨z77_⟩⟩
    case round =>
     clear H'
     obtain ⟨x13_2, x55_2, rfl, HA, HK2, HO_13, BK199, HB⟩ := hrel
     cases gk with
     | zero => exact absurd HA.out (by simp [msg_Bytes.l0])
     | succ k2 =>
      have H := HA.out
      clear HA
      simp only [msg_Bytes.l0] at H
      by_cases c26 : x55_2 < (l0_10.length : Int)
      ·rw [if_pos c26] at H
       have c26b0 : decide (x55_2 < (l0_10.length : Int)) = true := decide_eq_true c26
       clear c26
       by_cases c27 : 0 ≤ x55_2
       ·rw [if_pos c27] at H
        have c27b0 : decide (0 ≤ x55_2) = true := decide_eq_true c27
        clear c27
        by_cases c28 : x55_2 < (l0_10.length : Int)
        ·rw [if_pos c28] at H
         have c28b0 : decide (x55_2 < (l0_10.length : Int)) = true := decide_eq_true c28
         clear c28
         by_cases c29 : x13_2.length < 140737488355328
         ·rw [if_pos c29] at H
          have LMc29 := a0_ c29
          clear c29
          obtain ⟨y213, hy213⟩ : ∃ y_ : List Int, y_ = (x13_2 ++ [(rd l0_10 x55_2) % 256]) := ⟨_, rfl⟩
          replace H : (msg_Bytes.l0 k2 t201 t203 t205 t207 x12_7 y213 l0_10 (l0_10.length : Int) (wrap64 (x55_2 + 1)) a0_0 a0_1 l0_2 a0_3 a0_4 a0_5 a0_6 l0_7 a0_8 l0_9 l0_10 a0_11 a0_12 l0_13) = some (r1, r2) := by first | (rw [hy213]; with_reducible exact H) | (have H2_ := (Option.bind_some _ _).symm.trans H; rw [hy213]; with_reducible exact H2_) | (have H2_ := (Option.bind_some _ _).symm.trans H; with_reducible exact H2_) | with_reducible exact H | (rw [hy213]; exact H) | exact H
          have Ny213 := a0_ hy213
          clear hy213
          have H' := a0_ H
          clear H
          have p212 : 0 ≤ (x55_2 : Int) := of_decide_eq_true z19_
          have q212 : x55_2 < (l0_10.length : Int) := of_decide_eq_true z19_
          obtain ⟨ad212, e212, hx212_0⟩ := Kd.at_int HR0_10.out x55_2 p212 q212
          cases e212
          replace hx212_0 := (HB.out.cell (World.block_lt_of_cell? w _ hx212_0)).trans hx212_0
          replace p212 := eq_true p212
          replace q212 := eq_true q212
          go_wp2_with (first | ((with_reducible refine gate_builtin (b := .append) (xs := #[.tmp 59, .tmp 62]) rfl ?_); at_builtin; refine Kd.R_append (Kd.int .u8) (w0 := w) w.heap.size rfl (.tmp 59) (.tmp 62) 111 5 (.int .u8 0) 1 rfl Try.underlying111 info5 rfl z17_ z2_ u13 x13_2 ((rd l0_10 x55_2) % 256) [.int .u8 ((rd l0_10 x55_2) % 256)] (fun _ => True) (fun _ => False) rfl rfl ?aP (fun _ hk => hk.elim) ?aF ?aO ?aB ?aS ?aL ?_; (case aP => exact z72_); (case aB => exact z77_); (case aF => exact z43_); (case aO => exact (by (with_reducible repeat (first | apply Kd.R_alloc | apply Kd.R_drewN | apply Kd.R_drew)); exact HO_13.out)); (case aS => exact (below_size z77_)); (case aL => exact z78_); intro v214 w30 ho hb hg hat; rw [← Ny213.out] at ho; have n0_ := a0_ (blk_grown (g := gb199) (o := .cells #[.int .i64 a0_0, .int .i64 a0_1, .slice A0_2 l0_2.length c0_2, .int .i64 a0_3, .int .i64 a0_4, .int .i64 a0_5, .bool a0_6, .slice A0_7 l0_7.length c0_7, .int .i64 a0_8, .slice A0_9 l0_9.length c0_9, .slice (some ad212) l0_10.length c0_10, .int .i64 a0_11, .int .i64 a0_12, .slice A0_13 l0_13.length c0_13] 53 (0, 0)) z76_ hg (Kd.R_ne HO_13.out BK199.out z17_)); have n1_ := a0_ (hb); have n2_ := a0_ (ho); clear BK199; clear HB; clear HO_13; have BK199 := n0_; have HB := n1_; have HO215 := n2_; clear n0_ n1_ n2_; clear ho hb hg hat))
          go_roundg k2
          case measure => have := HJ7.out; have := HK2.out; omega
          case rel => exact ⟨(y213), (wrap64 (x55_2 + 1)), z9_, H', ⟨by have := HJ7.out; have := HK2.out; omega⟩, ⟨by (with_reducible repeat (first | apply Kd.R_alloc | apply Kd.R_drewN | apply Kd.R_drew)); exact HO215.out⟩, ⟨z76_⟩, ⟨z77_⟩⟩
         ·rw [if_neg c29] at H
          exact absurd H (by simp)
        ·rw [if_neg c28] at H
         exact absurd H (by simp)
       ·rw [if_neg c27] at H
        exact absurd H (by simp)
      ·rw [if_neg c26] at H
       have c26b0 : decide (x55_2 < (l0_10.length : Int)) = false := decide_eq_false c26
       clear c26
       obtain ⟨y216, hy216⟩ : ∃ y_ : List Int, y_ = (([(a0_0) % 256] : List Int)) := ⟨_, rfl⟩
       replace H : ((msg_eight.f k2 (([a0_1] : List Int))).bind fun t222 => (if (strOfNums y216).size + t222.size ≤ 9223372036854775807 then (if ((strOfNums y216) ++ t222).size + t201.size ≤ 9223372036854775807 then ((msg_eight.f k2 (([a0_3, a0_4, a0_5] : List Int))).bind fun t226 => (if (((strOfNums y216) ++ t222) ++ t201).size + t226.size ≤ 9223372036854775807 then ((some (([x12_7] : List Int) : List Int)).bind fun y227 => (if ((((strOfNums y216) ++ t222) ++ t201) ++ t226).size + (strOfNums y227).size ≤ 9223372036854775807 then (if (((((strOfNums y216) ++ t222) ++ t201) ++ t226) ++ (strOfNums y227)).size + t203.size ≤ 9223372036854775807 then ((msg_eight.f k2 (([a0_8] : List Int))).bind fun t233 => (if ((((((strOfNums y216) ++ t222) ++ t201) ++ t226) ++ (strOfNums y227)) ++ t203).size + t233.size ≤ 9223372036854775807 then (if (((((((strOfNums y216) ++ t222) ++ t201) ++ t226) ++ (strOfNums y227)) ++ t203) ++ t233).size + t205.size ≤ 9223372036854775807 then (if ((((((((strOfNums y216) ++ t222) ++ t201) ++ t226) ++ (strOfNums y227)) ++ t203) ++ t233) ++ t205).size + (strOfNums x13_2).size ≤ 9223372036854775807 then ((msg_eight.f k2 (([a0_11, a0_12] : List Int))).bind fun t237 => (if (((((((((strOfNums y216) ++ t222) ++ t201) ++ t226) ++ (strOfNums y227)) ++ t203) ++ t233) ++ t205) ++ (strOfNums x13_2)).size + t237.size ≤ 9223372036854775807 then (if ((((((((((strOfNums y216) ++ t222) ++ t201) ++ t226) ++ (strOfNums y227)) ++ t203) ++ t233) ++ t205) ++ (strOfNums x13_2)) ++ t237).size + t207.size ≤ 9223372036854775807 then (some (((((((((((strOfNums y216) ++ t222) ++ t201) ++ t226) ++ (strOfNums y227)) ++ t203) ++ t233) ++ t205) ++ (strOfNums x13_2)) ++ t237) ++ t207, 0)) else (none)) else (none))) else (none)) else (none)) else (none))) else (none)) else (none))) else (none))) else (none)) else (none))) = some (r1, r2) := by first | (rw [hy216]; with_reducible exact H) | (have H2_ := (Option.bind_some _ _).symm.trans H; rw [hy216]; with_reducible exact H2_) | (have H2_ := (Option.bind_some _ _).symm.trans H; with_reducible exact H2_) | with_reducible exact H | (rw [hy216]; exact H) | exact H
       have Ny216 := a0_ hy216
       clear hy216
       obtain ⟨y219, hy219⟩ : ∃ y_ : List Int, y_ = (([a0_1] : List Int)) := ⟨_, rfl⟩
       replace H : ((msg_eight.f k2 y219).bind fun t222 => (if (strOfNums y216).size + t222.size ≤ 9223372036854775807 then (if ((strOfNums y216) ++ t222).size + t201.size ≤ 9223372036854775807 then ((msg_eight.f k2 (([a0_3, a0_4, a0_5] : List Int))).bind fun t226 => (if (((strOfNums y216) ++ t222) ++ t201).size + t226.size ≤ 9223372036854775807 then ((some (([x12_7] : List Int) : List Int)).bind fun y227 => (if ((((strOfNums y216) ++ t222) ++ t201) ++ t226).size + (strOfNums y227).size ≤ 9223372036854775807 then (if (((((strOfNums y216) ++ t222) ++ t201) ++ t226) ++ (strOfNums y227)).size + t203.size ≤ 9223372036854775807 then ((msg_eight.f k2 (([a0_8] : List Int))).bind fun t233 => (if ((((((strOfNums y216) ++ t222) ++ t201) ++ t226) ++ (strOfNums y227)) ++ t203).size + t233.size ≤ 9223372036854775807 then (if (((((((strOfNums y216) ++ t222) ++ t201) ++ t226) ++ (strOfNums y227)) ++ t203) ++ t233).size + t205.size ≤ 9223372036854775807 then (if ((((((((strOfNums y216) ++ t222) ++ t201) ++ t226) ++ (strOfNums y227)) ++ t203) ++ t233) ++ t205).size + (strOfNums x13_2).size ≤ 9223372036854775807 then ((msg_eight.f k2 (([a0_11, a0_12] : List Int))).bind fun t237 => (if (((((((((strOfNums y216) ++ t222) ++ t201) ++ t226) ++ (strOfNums y227)) ++ t203) ++ t233) ++ t205) ++ (strOfNums x13_2)).size + t237.size ≤ 9223372036854775807 then (if ((((((((((strOfNums y216) ++ t222) ++ t201) ++ t226) ++ (strOfNums y227)) ++ t203) ++ t233) ++ t205) ++ (strOfNums x13_2)) ++ t237).size + t207.size ≤ 9223372036854775807 then (some (((((((((((strOfNums y216) ++ t222) ++ t201) ++ t226) ++ (strOfNums y227)) ++ t203) ++ t233) ++ t205) ++ (strOfNums x13_2)) ++ t237) ++ t207, 0)) else (none)) else (none))) else (none)) else (none)) else (none))) else (none)) else (none))) else (none))) else (none)) else (none))) = some (r1, r2) := by first | (rw [hy219]; with_reducible exact H) | (have H2_ := (Option.bind_some _ _).symm.trans H; rw [hy219]; with_reducible exact H2_) | (have H2_ := (Option.bind_some _ _).symm.trans H; with_reducible exact H2_) | with_reducible exact H | (rw [hy219]; exact H) | exact H
       have Ny219 := a0_ hy219
       clear hy219
       replace H := Option.bind_eq_some_iff.mp H
       obtain ⟨t222, A310, H⟩ := H
       try dsimp only at H
       have A31 := a0_ A310
       clear A310
       by_cases c32 : (strOfNums y216).size + t222.size ≤ 9223372036854775807
       ·rw [if_pos c32] at H
        have c32b0 := eq_true c32
        have c32b1 : decide ((strOfNums y216).size + t222.size ≤ 9223372036854775807) = true := decide_eq_true c32
        try have c32b2 : (9223372036854775807 < (strOfNums y216).size + t222.size) = False := eq_false (Nat.not_lt.2 c32)
        by_cases c33 : ((strOfNums y216) ++ t222).size + t201.size ≤ 9223372036854775807
        ·rw [if_pos c33] at H
         have c33b0 := eq_true c33
         have c33b1 : decide (((strOfNums y216) ++ t222).size + t201.size ≤ 9223372036854775807) = true := decide_eq_true c33
         try have c33b2 : (9223372036854775807 < ((strOfNums y216) ++ t222).size + t201.size) = False := eq_false (Nat.not_lt.2 c33)
         (try (have c33b2x := c33b2; simp only [ByteArray.size_append] at c33b2x))
         obtain ⟨y223, hy223⟩ : ∃ y_ : List Int, y_ = (([a0_3, a0_4, a0_5] : List Int)) := ⟨_, rfl⟩
         replace H : ((msg_eight.f k2 y223).bind fun t226 => (if (((strOfNums y216) ++ t222) ++ t201).size + t226.size ≤ 9223372036854775807 then ((some (([x12_7] : List Int) : List Int)).bind fun y227 => (if ((((strOfNums y216) ++ t222) ++ t201) ++ t226).size + (strOfNums y227).size ≤ 9223372036854775807 then (if (((((strOfNums y216) ++ t222) ++ t201) ++ t226) ++ (strOfNums y227)).size + t203.size ≤ 9223372036854775807 then ((msg_eight.f k2 (([a0_8] : List Int))).bind fun t233 => (if ((((((strOfNums y216) ++ t222) ++ t201) ++ t226) ++ (strOfNums y227)) ++ t203).size + t233.size ≤ 9223372036854775807 then (if (((((((strOfNums y216) ++ t222) ++ t201) ++ t226) ++ (strOfNums y227)) ++ t203) ++ t233).size + t205.size ≤ 9223372036854775807 then (if ((((((((strOfNums y216) ++ t222) ++ t201) ++ t226) ++ (strOfNums y227)) ++ t203) ++ t233) ++ t205).size + (strOfNums x13_2).size ≤ 9223372036854775807 then ((msg_eight.f k2 (([a0_11, a0_12] : List Int))).bind fun t237 => (if (((((((((strOfNums y216) ++ t222) ++ t201) ++ t226) ++ (strOfNums y227)) ++ t203) ++ t233) ++ t205) ++ (strOfNums x13_2)).size + t237.size ≤ 9223372036854775807 then (if ((((((((((strOfNums y216) ++ t222) ++ t201) ++ t226) ++ (strOfNums y227)) ++ t203) ++ t233) ++ t205) ++ (strOfNums x13_2)) ++ t237).size + t207.size ≤ 9223372036854775807 then (some (((((((((((strOfNums y216) ++ t222) ++ t201) ++ t226) ++ (strOfNums y227)) ++ t203) ++ t233) ++ t205) ++ (strOfNums x13_2)) ++ t237) ++ t207, 0)) else (none)) else (none))) else (none)) else (none)) else (none))) else (none)) else (none))) else (none))) = some (r1, r2) := by first | (rw [hy223]; with_reducible exact H) | (have H2_ := (Option.bind_some _ _).symm.trans H; rw [hy223]; with_reducible exact H2_) | (have H2_ := (Option.bind_some _ _).symm.trans H; with_reducible exact H2_) | with_reducible exact H | (rw [hy223]; exact H) | exact H
         have Ny223 := a0_ hy223
         clear hy223
         replace H := Option.bind_eq_some_iff.mp H
         obtain ⟨t226, A340, H⟩ := H
         try dsimp only at H
         have A34 := a0_ A340
         clear A340
         by_cases c35 : (((strOfNums y216) ++ t222) ++ t201).size + t226.size ≤ 9223372036854775807
         ·rw [if_pos c35] at H
          have c35b0 := eq_true c35
          have c35b1 : decide ((((strOfNums y216) ++ t222) ++ t201).size + t226.size ≤ 9223372036854775807) = true := decide_eq_true c35
          try have c35b2 : (9223372036854775807 < (((strOfNums y216) ++ t222) ++ t201).size + t226.size) = False := eq_false (Nat.not_lt.2 c35)
          (try (have c35b2x := c35b2; simp only [ByteArray.size_append] at c35b2x))
          obtain ⟨y227, hy227⟩ : ∃ y_ : List Int, y_ = (([x12_7] : List Int)) := ⟨_, rfl⟩
          replace H : (if ((((strOfNums y216) ++ t222) ++ t201) ++ t226).size + (strOfNums y227).size ≤ 9223372036854775807 then (if (((((strOfNums y216) ++ t222) ++ t201) ++ t226) ++ (strOfNums y227)).size + t203.size ≤ 9223372036854775807 then ((msg_eight.f k2 (([a0_8] : List Int))).bind fun t233 => (if ((((((strOfNums y216) ++ t222) ++ t201) ++ t226) ++ (strOfNums y227)) ++ t203).size + t233.size ≤ 9223372036854775807 then (if (((((((strOfNums y216) ++ t222) ++ t201) ++ t226) ++ (strOfNums y227)) ++ t203) ++ t233).size + t205.size ≤ 9223372036854775807 then (if ((((((((strOfNums y216) ++ t222) ++ t201) ++ t226) ++ (strOfNums y227)) ++ t203) ++ t233) ++ t205).size + (strOfNums x13_2).size ≤ 9223372036854775807 then ((msg_eight.f k2 (([a0_11, a0_12] : List Int))).bind fun t237 => (if (((((((((strOfNums y216) ++ t222) ++ t201) ++ t226) ++ (strOfNums y227)) ++ t203) ++ t233) ++ t205) ++ (strOfNums x13_2)).size + t237.size ≤ 9223372036854775807 then (if ((((((((((strOfNums y216) ++ t222) ++ t201) ++ t226) ++ (strOfNums y227)) ++ t203) ++ t233) ++ t205) ++ (strOfNums x13_2)) ++ t237).size + t207.size ≤ 9223372036854775807 then (some (((((((((((strOfNums y216) ++ t222) ++ t201) ++ t226) ++ (strOfNums y227)) ++ t203) ++ t233) ++ t205) ++ (strOfNums x13_2)) ++ t237) ++ t207, 0)) else (none)) else (none))) else (none)) else (none)) else (none))) else (none)) else (none)) = some (r1, r2) := by first | (rw [hy227]; with_reducible exact H) | (have H2_ := (Option.bind_some _ _).symm.trans H; rw [hy227]; with_reducible exact H2_) | (have H2_ := (Option.bind_some _ _).symm.trans H; with_reducible exact H2_) | with_reducible exact H | (rw [hy227]; exact H) | exact H
          have Ny227 := a0_ hy227
          clear hy227
          by_cases c36 : ((((strOfNums y216) ++ t222) ++ t201) ++ t226).size + (strOfNums y227).size ≤ 9223372036854775807
          ·rw [if_pos c36] at H
           have c36b0 := eq_true c36
           have c36b1 : decide (((((strOfNums y216) ++ t222) ++ t201) ++ t226).size + (strOfNums y227).size ≤ 9223372036854775807) = true := decide_eq_true c36
           try have c36b2 : (9223372036854775807 < ((((strOfNums y216) ++ t222) ++ t201) ++ t226).size + (strOfNums y227).size) = False := eq_false (Nat.not_lt.2 c36)
           (try (have c36b2x := c36b2; simp only [ByteArray.size_append] at c36b2x))
           by_cases c37 : (((((strOfNums y216) ++ t222) ++ t201) ++ t226) ++ (strOfNums y227)).size + t203.size ≤ 9223372036854775807
           ·rw [if_pos c37] at H
            have c37b0 := eq_true c37
            have c37b1 : decide ((((((strOfNums y216) ++ t222) ++ t201) ++ t226) ++ (strOfNums y227)).size + t203.size ≤ 9223372036854775807) = true := decide_eq_true c37
            try have c37b2 : (9223372036854775807 < (((((strOfNums y216) ++ t222) ++ t201) ++ t226) ++ (strOfNums y227)).size + t203.size) = False := eq_false (Nat.not_lt.2 c37)
            (try (have c37b2x := c37b2; simp only [ByteArray.size_append] at c37b2x))
            obtain ⟨y230, hy230⟩ : ∃ y_ : List Int, y_ = (([a0_8] : List Int)) := ⟨_, rfl⟩
            replace H : ((msg_eight.f k2 y230).bind fun t233 => (if ((((((strOfNums y216) ++ t222) ++ t201) ++ t226) ++ (strOfNums y227)) ++ t203).size + t233.size ≤ 9223372036854775807 then (if (((((((strOfNums y216) ++ t222) ++ t201) ++ t226) ++ (strOfNums y227)) ++ t203) ++ t233).size + t205.size ≤ 9223372036854775807 then (if ((((((((strOfNums y216) ++ t222) ++ t201) ++ t226) ++ (strOfNums y227)) ++ t203) ++ t233) ++ t205).size + (strOfNums x13_2).size ≤ 9223372036854775807 then ((msg_eight.f k2 (([a0_11, a0_12] : List Int))).bind fun t237 => (if (((((((((strOfNums y216) ++ t222) ++ t201) ++ t226) ++ (strOfNums y227)) ++ t203) ++ t233) ++ t205) ++ (strOfNums x13_2)).size + t237.size ≤ 9223372036854775807 then (if ((((((((((strOfNums y216) ++ t222) ++ t201) ++ t226) ++ (strOfNums y227)) ++ t203) ++ t233) ++ t205) ++ (strOfNums x13_2)) ++ t237).size + t207.size ≤ 9223372036854775807 then (some (((((((((((strOfNums y216) ++ t222) ++ t201) ++ t226) ++ (strOfNums y227)) ++ t203) ++ t233) ++ t205) ++ (strOfNums x13_2)) ++ t237) ++ t207, 0)) else (none)) else (none))) else (none)) else (none)) else (none))) = some (r1, r2) := by first | (rw [hy230]; with_reducible exact H) | (have H2_ := (Option.bind_some _ _).symm.trans H; rw [hy230]; with_reducible exact H2_) | (have H2_ := (Option.bind_some _ _).symm.trans H; with_reducible exact H2_) | with_reducible exact H | (rw [hy230]; exact H) | exact H
            have Ny230 := a0_ hy230
            clear hy230
            replace H := Option.bind_eq_some_iff.mp H
            obtain ⟨t233, A380, H⟩ := H
            try dsimp only at H
            have A38 := a0_ A380
            clear A380
            by_cases c39 : ((((((strOfNums y216) ++ t222) ++ t201) ++ t226) ++ (strOfNums y227)) ++ t203).size + t233.size ≤ 9223372036854775807
            ·rw [if_pos c39] at H
             have c39b0 := eq_true c39
             have c39b1 : decide (((((((strOfNums y216) ++ t222) ++ t201) ++ t226) ++ (strOfNums y227)) ++ t203).size + t233.size ≤ 9223372036854775807) = true := decide_eq_true c39
             try have c39b2 : (9223372036854775807 < ((((((strOfNums y216) ++ t222) ++ t201) ++ t226) ++ (strOfNums y227)) ++ t203).size + t233.size) = False := eq_false (Nat.not_lt.2 c39)
             (try (have c39b2x := c39b2; simp only [ByteArray.size_append] at c39b2x))
             by_cases c40 : (((((((strOfNums y216) ++ t222) ++ t201) ++ t226) ++ (strOfNums y227)) ++ t203) ++ t233).size + t205.size ≤ 9223372036854775807
             ·rw [if_pos c40] at H
              have c40b0 := eq_true c40
              have c40b1 : decide ((((((((strOfNums y216) ++ t222) ++ t201) ++ t226) ++ (strOfNums y227)) ++ t203) ++ t233).size + t205.size ≤ 9223372036854775807) = true := decide_eq_true c40
              try have c40b2 : (9223372036854775807 < (((((((strOfNums y216) ++ t222) ++ t201) ++ t226) ++ (strOfNums y227)) ++ t203) ++ t233).size + t205.size) = False := eq_false (Nat.not_lt.2 c40)
              (try (have c40b2x := c40b2; simp only [ByteArray.size_append] at c40b2x))
              by_cases c41 : ((((((((strOfNums y216) ++ t222) ++ t201) ++ t226) ++ (strOfNums y227)) ++ t203) ++ t233) ++ t205).size + (strOfNums x13_2).size ≤ 9223372036854775807
              ·rw [if_pos c41] at H
               have c41b0 := eq_true c41
               have c41b1 : decide (((((((((strOfNums y216) ++ t222) ++ t201) ++ t226) ++ (strOfNums y227)) ++ t203) ++ t233) ++ t205).size + (strOfNums x13_2).size ≤ 9223372036854775807) = true := decide_eq_true c41
               try have c41b2 : (9223372036854775807 < ((((((((strOfNums y216) ++ t222) ++ t201) ++ t226) ++ (strOfNums y227)) ++ t203) ++ t233) ++ t205).size + (strOfNums x13_2).size) = False := eq_false (Nat.not_lt.2 c41)
               (try (have c41b2x := c41b2; simp only [ByteArray.size_append] at c41b2x))
               obtain ⟨y234, hy234⟩ : ∃ y_ : List Int, y_ = (([a0_11, a0_12] : List Int)) := ⟨_, rfl⟩
               replace H : ((msg_eight.f k2 y234).bind fun t237 => (if (((((((((strOfNums y216) ++ t222) ++ t201) ++ t226) ++ (strOfNums y227)) ++ t203) ++ t233) ++ t205) ++ (strOfNums x13_2)).size + t237.size ≤ 9223372036854775807 then (if ((((((((((strOfNums y216) ++ t222) ++ t201) ++ t226) ++ (strOfNums y227)) ++ t203) ++ t233) ++ t205) ++ (strOfNums x13_2)) ++ t237).size + t207.size ≤ 9223372036854775807 then (some (((((((((((strOfNums y216) ++ t222) ++ t201) ++ t226) ++ (strOfNums y227)) ++ t203) ++ t233) ++ t205) ++ (strOfNums x13_2)) ++ t237) ++ t207, 0)) else (none)) else (none))) = some (r1, r2) := by first | (rw [hy234]; with_reducible exact H) | (have H2_ := (Option.bind_some _ _).symm.trans H; rw [hy234]; with_reducible exact H2_) | (have H2_ := (Option.bind_some _ _).symm.trans H; with_reducible exact H2_) | with_reducible exact H | (rw [hy234]; exact H) | exact H
               have Ny234 := a0_ hy234
               clear hy234
               replace H := Option.bind_eq_some_iff.mp H
               obtain ⟨t237, A420, H⟩ := H
               try dsimp only at H
               have A42 := a0_ A420
               clear A420
               by_cases c43 : (((((((((strOfNums y216) ++ t222) ++ t201) ++ t226) ++ (strOfNums y227)) ++ t203) ++ t233) ++ t205) ++ (strOfNums x13_2)).size + t237.size ≤ 9223372036854775807
               ·rw [if_pos c43] at H
                have c43b0 := eq_true c43
                have c43b1 : decide ((((((((((strOfNums y216) ++ t222) ++ t201) ++ t226) ++ (strOfNums y227)) ++ t203) ++ t233) ++ t205) ++ (strOfNums x13_2)).size + t237.size ≤ 9223372036854775807) = true := decide_eq_true c43
                try have c43b2 : (9223372036854775807 < (((((((((strOfNums y216) ++ t222) ++ t201) ++ t226) ++ (strOfNums y227)) ++ t203) ++ t233) ++ t205) ++ (strOfNums x13_2)).size + t237.size) = False := eq_false (Nat.not_lt.2 c43)
                (try (have c43b2x := c43b2; simp only [ByteArray.size_append] at c43b2x))
                by_cases c44 : ((((((((((strOfNums y216) ++ t222) ++ t201) ++ t226) ++ (strOfNums y227)) ++ t203) ++ t233) ++ t205) ++ (strOfNums x13_2)) ++ t237).size + t207.size ≤ 9223372036854775807
                ·rw [if_pos c44] at H
                 have c44b0 := eq_true c44
                 have c44b1 : decide (((((((((((strOfNums y216) ++ t222) ++ t201) ++ t226) ++ (strOfNums y227)) ++ t203) ++ t233) ++ t205) ++ (strOfNums x13_2)) ++ t237).size + t207.size ≤ 9223372036854775807) = true := decide_eq_true c44
                 try have c44b2 : (9223372036854775807 < ((((((((((strOfNums y216) ++ t222) ++ t201) ++ t226) ++ (strOfNums y227)) ++ t203) ++ t233) ++ t205) ++ (strOfNums x13_2)) ++ t237).size + t207.size) = False := eq_false (Nat.not_lt.2 c44)
                 (try (have c44b2x := c44b2; simp only [ByteArray.size_append] at c44b2x))
                 simp only [Option.some.injEq, Prod.mk.injEq] at H
                 obtain ⟨rfl, rfl⟩ := H
                 obtain ⟨hcz45_0, hcz45_1, hcz45_2, hcz45_3, hcz45_4, hcz45_5, hcz45_6, hcz45_7, hcz45_8, hcz45_9, hcz45_10, hcz45_11, hcz45_12, hcz45_13⟩ := bc14_ BK199.out
                 obtain ⟨hfz45_0, hfz45_1, hfz45_2, hfz45_3, hfz45_4, hfz45_5, hfz45_6, hfz45_7, hfz45_8, hfz45_9, hfz45_10, hfz45_11, hfz45_12, hfz45_13⟩ := bf14_ BK199.out
                 go_upto_region 16 with (fail)
                 have e216 := Ny216.out
                 clear Ny216
                 subst e216
                 have e219 := Ny219.out
                 clear Ny219
                 subst e219
                 have e223 := Ny223.out
                 clear Ny223
                 subst e223
                 have e227 := Ny227.out
                 clear Ny227
                 subst e227
                 have e230 := Ny230.out
                 clear Ny230
                 subst e230
                 have e234 := Ny234.out
                 clear Ny234
                 subst e234
                 have B31 := A31.out
                 have B34 := A34.out
                 have B38 := A38.out
                 have B42 := A42.out
                 refine Flow.flowL 114 rfl rfl z11_ z11_ [Flow.MR.is (.pointer (some ⟨gb199, 0, none⟩)), Flow.MR.is (.int .i64 a0_0), Flow.MR.is (.int .u8 (a0_0 % 256)), Flow.MR.row (Kd.int .u8) 5 w.heap.size ([a0_0 % 256] : List Int), Flow.MR.is (.string (strOfNums ([a0_0 % 256] : List Int))), Flow.MR.is (.pointer (some ⟨gb199, 1, none⟩)), Flow.MR.is (.int .i64 a0_1), Flow.MR.row (Kd.int .i64) 3 w.heap.size ([a0_1] : List Int), Flow.MR.is (.string t222), Flow.MR.is (.string ((strOfNums ([a0_0 % 256] : List Int)) ++ t222)), Flow.MR.is (.string t201), Flow.MR.is (.string (((strOfNums ([a0_0 % 256] : List Int)) ++ t222) ++ t201)), Flow.MR.is (.pointer (some ⟨gb199, 3, none⟩)), Flow.MR.is (.int .i64 a0_3), Flow.MR.is (.pointer (some ⟨gb199, 4, none⟩)), Flow.MR.is (.int .i64 a0_4), Flow.MR.is (.pointer (some ⟨gb199, 5, none⟩)), Flow.MR.is (.int .i64 a0_5), Flow.MR.row (Kd.int .i64) 3 w.heap.size ([a0_3, a0_4, a0_5] : List Int), Flow.MR.is (.string t226), Flow.MR.is (.string ((((strOfNums ([a0_0 % 256] : List Int)) ++ t222) ++ t201) ++ t226)), Flow.MR.is (.int .u8 x12_7), Flow.MR.row (Kd.int .u8) 5 w.heap.size ([x12_7] : List Int), Flow.MR.is (.string (strOfNums ([x12_7] : List Int))), Flow.MR.is (.string (((((strOfNums ([a0_0 % 256] : List Int)) ++ t222) ++ t201) ++ t226) ++ (strOfNums ([x12_7] : List Int)))), Flow.MR.is (.string t203), Flow.MR.is (.string ((((((strOfNums ([a0_0 % 256] : List Int)) ++ t222) ++ t201) ++ t226) ++ (strOfNums ([x12_7] : List Int))) ++ t203)), Flow.MR.is (.pointer (some ⟨gb199, 7, none⟩)), Flow.MR.is (.pointer (some ⟨gb199, 8, none⟩)), Flow.MR.is (.int .i64 a0_8), Flow.MR.row (Kd.int .i64) 3 w.heap.size ([a0_8] : List Int), Flow.MR.is (.string t233), Flow.MR.is (.string (((((((strOfNums ([a0_0 % 256] : List Int)) ++ t222) ++ t201) ++ t226) ++ (strOfNums ([x12_7] : List Int))) ++ t203) ++ t233)), Flow.MR.is (.string t205), Flow.MR.is (.string ((((((((strOfNums ([a0_0 % 256] : List Int)) ++ t222) ++ t201) ++ t226) ++ (strOfNums ([x12_7] : List Int))) ++ t203) ++ t233) ++ t205)), Flow.MR.row (Kd.int .u8) 5 w.heap.size x13_2, Flow.MR.is (.string (strOfNums x13_2)), Flow.MR.is (.string (((((((((strOfNums ([a0_0 % 256] : List Int)) ++ t222) ++ t201) ++ t226) ++ (strOfNums ([x12_7] : List Int))) ++ t203) ++ t233) ++ t205) ++ (strOfNums x13_2))), Flow.MR.is (.pointer (some ⟨gb199, 11, none⟩)), Flow.MR.is (.pointer (some ⟨gb199, 11, none⟩)), Flow.MR.is (.int .i64 a0_11), Flow.MR.is (.pointer (some ⟨gb199, 11, none⟩)), Flow.MR.is (.pointer (some ⟨gb199, 12, none⟩)), Flow.MR.is (.int .i64 a0_12), Flow.MR.row (Kd.int .i64) 3 w.heap.size ([a0_11, a0_12] : List Int), Flow.MR.is (.string t237), Flow.MR.is (.string ((((((((((strOfNums ([a0_0 % 256] : List Int)) ++ t222) ++ t201) ++ t226) ++ (strOfNums ([x12_7] : List Int))) ++ t203) ++ t233) ++ t205) ++ (strOfNums x13_2)) ++ t237)), Flow.MR.is (.string t207), Flow.MR.is (.string (((((((((((strOfNums ([a0_0 % 256] : List Int)) ++ t222) ++ t201) ++ t226) ++ (strOfNums ([x12_7] : List Int))) ++ t203) ++ t233) ++ t205) ++ (strOfNums x13_2)) ++ t237) ++ t207)), Flow.MR.is (.string (((((((((((strOfNums ([a0_0 % 256] : List Int)) ++ t222) ++ t201) ++ t226) ++ (strOfNums ([x12_7] : List Int))) ++ t203) ++ t233) ++ t205) ++ (strOfNums x13_2)) ++ t237) ++ t207)), Flow.MR.is (.int .i64 0)] ⟨?_, ?_, ?_, ?_, ?_, ?_, ?_, ?_, ?_, ?_, ?_, ?_, ?_, ?_, ?_, ?_, ?_, ?_, ?_, ?_, ?_, ?_, ?_, ?_, ?_, ?_, ?_, ?_, ?_, ?_, ?_, ?_, ?_, ?_, ?_, ?_, ?_, ?_, ?_, ?_, ?_, ?_, ?_, ?_, ?_, ?_, ?_, ?_, ?_, ?_, ?_, trivial⟩ ?_
                 ·intro a w' hbel hout hdep K hK
                  have d1 : a.tmps.getD 1 undef = (.pointer (some ⟨gb199, 0, none⟩) : Value) := (hout 1 z11_).trans rfl
                  rw [Array.getD_eq_getD_getElem?] at d1
                  refine value_ (w1 := w') (v := .pointer (some ⟨gb199, 0, none⟩)) rfl rfl ?_ (hK.out _ _ (Below.refl _ _) rfl)
                  (first | (go_simp; done) | (go_simp; rfl) | (unfold execOp; go_simp; rfl))
                 ·intro a w' hbel hout hdep K hK
                  have d65 : a.tmps.getD 65 undef = (.pointer (some ⟨gb199, 0, none⟩) : Value) := hdep 0 _ rfl rfl _ 65 rfl rfl
                  rw [Array.getD_eq_getD_getElem?] at d65
                  have c0 : w'.cell? ⟨gb199, 0, none⟩ = some (.int .i64 a0_0) := (blk_cell (blk_below (blk_drew BK199.out) hbel) 0).trans rfl
                  refine value_ (w1 := w') (v := .int .i64 a0_0) rfl rfl ?_ (hK.out _ _ (Below.refl _ _) rfl)
                  (first | (go_simp; done) | (go_simp; rfl) | (unfold execOp; go_simp; rfl))
                 ·intro a w' hbel hout hdep K hK
                  have d66 : a.tmps.getD 66 undef = (.int .i64 a0_0 : Value) := hdep 0 _ rfl rfl _ 66 rfl rfl
                  rw [Array.getD_eq_getD_getElem?] at d66
                  refine value_ (w1 := w') (v := .int .u8 (a0_0 % 256)) rfl rfl ?_ (hK.out _ _ (Below.refl _ _) rfl)
                  (first | (go_simp; done) | (go_simp; rfl) | (unfold execOp; go_simp; rfl))
                 ·intro a w' hbel hout hdep K hK
                  have d67 : a.tmps.getD 67 undef = (.int .u8 (a0_0 % 256) : Value) := hdep 0 _ rfl rfl _ 67 rfl rfl
                  rw [Array.getD_eq_getD_getElem?] at d67
                  refine Kd.R_lit_step (Kd.int .u8) (w0 := w) w.heap.size 5 rfl (N := 68) rfl (xs := ([a0_0 % 256] : List Int)) (inner := [.int .u8 (a0_0 % 256)]) (ok := fun _ => True) (okp := fun _ => True) ?hr ?hp (fun _ _ => trivial) trivial (below_step (below_drew1 HB.out) hbel) (Nat.le_trans HB.out.size hbel.size) (by simp) ?_
                  (case hr => exact z79_)
                  (case hp => exact (Reps.one (show Kd.M (Kd.int .u8) _ _ _ (a0_0 % 256) [.int .u8 (a0_0 % 256)] from rfl) (Reps.none _ _)))
                  intro v1 w2 h1 h2 h3 h4
                  exact hK.out _ _ (pw_below_grown (Below.refl w'.heap.size w') none (Nat.le_refl _) h3 (fun k hk => by cases hk)) h1
                 ·intro a w' hbel hout hdep K hK
                  have d68 : (Kd.int .u8).R 5 w' w.heap.size (fun _ => True) (a.tmps.getD 68 undef) ([a0_0 % 256] : List Int) := hdep 0 _ rfl rfl _ 68 rfl rfl
                  rw [Array.getD_eq_getD_getElem?] at d68
                  have hcv := own_string (P := Try.prog) Try.underlying111 Try.underlying5 Try.underlying9 (Kd.own_of_R d68)
                  refine value_ (w1 := w') (v := .string (strOfNums ([a0_0 % 256] : List Int))) rfl rfl ?_ (hK.out _ _ (Below.refl _ _) rfl)
                  (first | (go_simp; done) | (go_simp; rfl) | (unfold execOp; go_simp; rfl))
                 ·intro a w' hbel hout hdep K hK
                  have d1 : a.tmps.getD 1 undef = (.pointer (some ⟨gb199, 0, none⟩) : Value) := (hout 1 z11_).trans rfl
                  rw [Array.getD_eq_getD_getElem?] at d1
                  refine value_ (w1 := w') (v := .pointer (some ⟨gb199, 1, none⟩)) rfl rfl ?_ (hK.out _ _ (Below.refl _ _) rfl)
                  (first | (go_simp; done) | (go_simp; rfl) | (unfold execOp; go_simp; rfl))
                 ·intro a w' hbel hout hdep K hK
                  have d70 : a.tmps.getD 70 undef = (.pointer (some ⟨gb199, 1, none⟩) : Value) := hdep 0 _ rfl rfl _ 70 rfl rfl
                  rw [Array.getD_eq_getD_getElem?] at d70
                  have c0 : w'.cell? ⟨gb199, 1, none⟩ = some (.int .i64 a0_1) := (blk_cell (blk_below (blk_drew BK199.out) hbel) 1).trans rfl
                  refine value_ (w1 := w') (v := .int .i64 a0_1) rfl rfl ?_ (hK.out _ _ (Below.refl _ _) rfl)
                  (first | (go_simp; done) | (go_simp; rfl) | (unfold execOp; go_simp; rfl))
                 ·intro a w' hbel hout hdep K hK
                  have d71 : a.tmps.getD 71 undef = (.int .i64 a0_1 : Value) := hdep 0 _ rfl rfl _ 71 rfl rfl
                  rw [Array.getD_eq_getD_getElem?] at d71
                  refine Kd.R_lit_step (Kd.int .i64) (w0 := w) w.heap.size 3 rfl (N := 72) rfl (xs := ([a0_1] : List Int)) (inner := [.int .i64 a0_1]) (ok := fun _ => True) (okp := fun _ => True) ?hr ?hp (fun _ _ => trivial) trivial (below_step (below_drew1 HB.out) hbel) (Nat.le_trans HB.out.size hbel.size) (by simp) ?_
                  (case hr => exact z79_)
                  (case hp => exact (Reps.one (show Kd.M (Kd.int .i64) _ _ _ (a0_1) [.int .i64 a0_1] from rfl) (Reps.none _ _)))
                  intro v1 w2 h1 h2 h3 h4
                  exact hK.out _ _ (pw_below_grown (Below.refl w'.heap.size w') none (Nat.le_refl _) h3 (fun k hk => by cases hk)) h1
                 ·intro a w' hbel hout hdep K hK
                  have d72 : (Kd.int .i64).R 3 w' w.heap.size (fun _ => True) (a.tmps.getD 72 undef) ([a0_1] : List Int) := hdep 0 _ rfl rfl _ 72 rfl rfl
                  obtain ⟨A, c, hv, hc, hC⟩ := Kd.R_reads d72
                  refine goes_ Try.func41 z11_ rfl #[.slice A ([a0_1] : List Int).length c] rfl rfl rfl z80_ ?_
                  refine (msg_eight.calls k2 A c ([a0_1] : List Int) t222 w' hC hc B31).mono ?_
                  rintro e w2 ⟨rfl, hb⟩
                  exact ⟨_, rfl, hK.out _ _ hb rfl⟩
                 ·intro a w' hbel hout hdep K hK
                  have d69 : a.tmps.getD 69 undef = (.string (strOfNums ([a0_0 % 256] : List Int)) : Value) := hdep 0 _ rfl rfl _ 69 rfl rfl
                  have d73 : a.tmps.getD 73 undef = (.string t222 : Value) := hdep 1 _ rfl rfl _ 73 rfl rfl
                  rw [Array.getD_eq_getD_getElem?] at d69
                  rw [Array.getD_eq_getD_getElem?] at d73
                  refine value_ (w1 := w') (v := .string ((strOfNums ([a0_0 % 256] : List Int)) ++ t222)) rfl rfl ?_ (hK.out _ _ (Below.refl _ _) rfl)
                  (first | (go_simp; done) | (go_simp; rfl) | (unfold execOp; go_simp; rfl))
                 ·intro a w' hbel hout hdep K hK
                  have d4 : a.tmps.getD 4 undef = (.string t201 : Value) := (hout 4 z11_).trans rfl
                  rw [Array.getD_eq_getD_getElem?] at d4
                  refine value_ (w1 := w') (v := .string t201) rfl rfl ?_ (hK.out _ _ (Below.refl _ _) rfl)
                  (first | (go_simp; done) | (go_simp; rfl) | (unfold execOp; go_simp; rfl))
                 ·intro a w' hbel hout hdep K hK
                  have d74 : a.tmps.getD 74 undef = (.string ((strOfNums ([a0_0 % 256] : List Int)) ++ t222) : Value) := hdep 0 _ rfl rfl _ 74 rfl rfl
                  have d75 : a.tmps.getD 75 undef = (.string t201 : Value) := hdep 1 _ rfl rfl _ 75 rfl rfl
                  rw [Array.getD_eq_getD_getElem?] at d74
                  rw [Array.getD_eq_getD_getElem?] at d75
                  refine value_ (w1 := w') (v := .string (((strOfNums ([a0_0 % 256] : List Int)) ++ t222) ++ t201)) rfl rfl ?_ (hK.out _ _ (Below.refl _ _) rfl)
                  (first | (go_simp; done) | (go_simp; rfl) | (unfold execOp; go_simp; rfl))
                 ·intro a w' hbel hout hdep K hK
                  have d1 : a.tmps.getD 1 undef = (.pointer (some ⟨gb199, 0, none⟩) : Value) := (hout 1 z11_).trans rfl
                  rw [Array.getD_eq_getD_getElem?] at d1
                  refine value_ (w1 := w') (v := .pointer (some ⟨gb199, 3, none⟩)) rfl rfl ?_ (hK.out _ _ (Below.refl _ _) rfl)
                  (first | (go_simp; done) | (go_simp; rfl) | (unfold execOp; go_simp; rfl))
                 ·intro a w' hbel hout hdep K hK
                  have d77 : a.tmps.getD 77 undef = (.pointer (some ⟨gb199, 3, none⟩) : Value) := hdep 0 _ rfl rfl _ 77 rfl rfl
                  rw [Array.getD_eq_getD_getElem?] at d77
                  have c0 : w'.cell? ⟨gb199, 3, none⟩ = some (.int .i64 a0_3) := (blk_cell (blk_below (blk_drew BK199.out) hbel) 3).trans rfl
                  refine value_ (w1 := w') (v := .int .i64 a0_3) rfl rfl ?_ (hK.out _ _ (Below.refl _ _) rfl)
                  (first | (go_simp; done) | (go_simp; rfl) | (unfold execOp; go_simp; rfl))
                 ·intro a w' hbel hout hdep K hK
                  have d1 : a.tmps.getD 1 undef = (.pointer (some ⟨gb199, 0, none⟩) : Value) := (hout 1 z11_).trans rfl
                  rw [Array.getD_eq_getD_getElem?] at d1
                  refine value_ (w1 := w') (v := .pointer (some ⟨gb199, 4, none⟩)) rfl rfl ?_ (hK.out _ _ (Below.refl _ _) rfl)
                  (first | (go_simp; done) | (go_simp; rfl) | (unfold execOp; go_simp; rfl))
                 ·intro a w' hbel hout hdep K hK
                  have d79 : a.tmps.getD 79 undef = (.pointer (some ⟨gb199, 4, none⟩) : Value) := hdep 0 _ rfl rfl _ 79 rfl rfl
                  rw [Array.getD_eq_getD_getElem?] at d79
                  have c0 : w'.cell? ⟨gb199, 4, none⟩ = some (.int .i64 a0_4) := (blk_cell (blk_below (blk_drew BK199.out) hbel) 4).trans rfl
                  refine value_ (w1 := w') (v := .int .i64 a0_4) rfl rfl ?_ (hK.out _ _ (Below.refl _ _) rfl)
                  (first | (go_simp; done) | (go_simp; rfl) | (unfold execOp; go_simp; rfl))
                 ·intro a w' hbel hout hdep K hK
                  have d1 : a.tmps.getD 1 undef = (.pointer (some ⟨gb199, 0, none⟩) : Value) := (hout 1 z11_).trans rfl
                  rw [Array.getD_eq_getD_getElem?] at d1
                  refine value_ (w1 := w') (v := .pointer (some ⟨gb199, 5, none⟩)) rfl rfl ?_ (hK.out _ _ (Below.refl _ _) rfl)
                  (first | (go_simp; done) | (go_simp; rfl) | (unfold execOp; go_simp; rfl))
                 ·intro a w' hbel hout hdep K hK
                  have d81 : a.tmps.getD 81 undef = (.pointer (some ⟨gb199, 5, none⟩) : Value) := hdep 0 _ rfl rfl _ 81 rfl rfl
                  rw [Array.getD_eq_getD_getElem?] at d81
                  have c0 : w'.cell? ⟨gb199, 5, none⟩ = some (.int .i64 a0_5) := (blk_cell (blk_below (blk_drew BK199.out) hbel) 5).trans rfl
                  refine value_ (w1 := w') (v := .int .i64 a0_5) rfl rfl ?_ (hK.out _ _ (Below.refl _ _) rfl)
                  (first | (go_simp; done) | (go_simp; rfl) | (unfold execOp; go_simp; rfl))
                 ·intro a w' hbel hout hdep K hK
                  have d78 : a.tmps.getD 78 undef = (.int .i64 a0_3 : Value) := hdep 0 _ rfl rfl _ 78 rfl rfl
                  have d80 : a.tmps.getD 80 undef = (.int .i64 a0_4 : Value) := hdep 1 _ rfl rfl _ 80 rfl rfl
                  have d82 : a.tmps.getD 82 undef = (.int .i64 a0_5 : Value) := hdep 2 _ rfl rfl _ 82 rfl rfl
                  rw [Array.getD_eq_getD_getElem?] at d78
                  rw [Array.getD_eq_getD_getElem?] at d80
                  rw [Array.getD_eq_getD_getElem?] at d82
                  refine Kd.R_lit_step (Kd.int .i64) (w0 := w) w.heap.size 3 rfl (N := 83) rfl (xs := ([a0_3, a0_4, a0_5] : List Int)) (inner := [.int .i64 a0_3, .int .i64 a0_4, .int .i64 a0_5]) (ok := fun _ => True) (okp := fun _ => True) ?hr ?hp (fun _ _ => trivial) trivial (below_step (below_drew1 HB.out) hbel) (Nat.le_trans HB.out.size hbel.size) (by simp) ?_
                  (case hr => exact z79_)
                  (case hp => exact (Reps.one (show Kd.M (Kd.int .i64) _ _ _ (a0_3) [.int .i64 a0_3] from rfl) (Reps.one (show Kd.M (Kd.int .i64) _ _ _ (a0_4) [.int .i64 a0_4] from rfl) (Reps.one (show Kd.M (Kd.int .i64) _ _ _ (a0_5) [.int .i64 a0_5] from rfl) (Reps.none _ _)))))
                  intro v1 w2 h1 h2 h3 h4
                  exact hK.out _ _ (pw_below_grown (Below.refl w'.heap.size w') none (Nat.le_refl _) h3 (fun k hk => by cases hk)) h1
                 ·intro a w' hbel hout hdep K hK
                  have d83 : (Kd.int .i64).R 3 w' w.heap.size (fun _ => True) (a.tmps.getD 83 undef) ([a0_3, a0_4, a0_5] : List Int) := hdep 0 _ rfl rfl _ 83 rfl rfl
                  obtain ⟨A, c, hv, hc, hC⟩ := Kd.R_reads d83
                  refine goes_ Try.func41 z11_ rfl #[.slice A ([a0_3, a0_4, a0_5] : List Int).length c] rfl rfl rfl z80_ ?_
                  refine (msg_eight.calls k2 A c ([a0_3, a0_4, a0_5] : List Int) t226 w' hC hc B34).mono ?_
                  rintro e w2 ⟨rfl, hb⟩
                  exact ⟨_, rfl, hK.out _ _ hb rfl⟩
                 ·intro a w' hbel hout hdep K hK
                  have d76 : a.tmps.getD 76 undef = (.string (((strOfNums ([a0_0 % 256] : List Int)) ++ t222) ++ t201) : Value) := hdep 0 _ rfl rfl _ 76 rfl rfl
                  have d84 : a.tmps.getD 84 undef = (.string t226 : Value) := hdep 1 _ rfl rfl _ 84 rfl rfl
                  rw [Array.getD_eq_getD_getElem?] at d76
                  rw [Array.getD_eq_getD_getElem?] at d84
                  refine value_ (w1 := w') (v := .string ((((strOfNums ([a0_0 % 256] : List Int)) ++ t222) ++ t201) ++ t226)) rfl rfl ?_ (hK.out _ _ (Below.refl _ _) rfl)
                  (first | (go_simp; done) | (go_simp; rfl) | (unfold execOp; go_simp; rfl))
                 ·intro a w' hbel hout hdep K hK
                  have d12 : a.tmps.getD 12 undef = (.int .u8 x12_7 : Value) := (hout 12 z11_).trans rfl
                  rw [Array.getD_eq_getD_getElem?] at d12
                  refine value_ (w1 := w') (v := .int .u8 x12_7) rfl rfl ?_ (hK.out _ _ (Below.refl _ _) rfl)
                  (first | (go_simp; done) | (go_simp; rfl) | (unfold execOp; go_simp; rfl))
                 ·intro a w' hbel hout hdep K hK
                  have d86 : a.tmps.getD 86 undef = (.int .u8 x12_7 : Value) := hdep 0 _ rfl rfl _ 86 rfl rfl
                  rw [Array.getD_eq_getD_getElem?] at d86
                  refine Kd.R_lit_step (Kd.int .u8) (w0 := w) w.heap.size 5 rfl (N := 87) rfl (xs := ([x12_7] : List Int)) (inner := [.int .u8 x12_7]) (ok := fun _ => True) (okp := fun _ => True) ?hr ?hp (fun _ _ => trivial) trivial (below_step (below_drew1 HB.out) hbel) (Nat.le_trans HB.out.size hbel.size) (by simp) ?_
                  (case hr => exact z79_)
                  (case hp => exact (Reps.one (show Kd.M (Kd.int .u8) _ _ _ (x12_7) [.int .u8 x12_7] from rfl) (Reps.none _ _)))
                  intro v1 w2 h1 h2 h3 h4
                  exact hK.out _ _ (pw_below_grown (Below.refl w'.heap.size w') none (Nat.le_refl _) h3 (fun k hk => by cases hk)) h1
                 ·intro a w' hbel hout hdep K hK
                  have d87 : (Kd.int .u8).R 5 w' w.heap.size (fun _ => True) (a.tmps.getD 87 undef) ([x12_7] : List Int) := hdep 0 _ rfl rfl _ 87 rfl rfl
                  rw [Array.getD_eq_getD_getElem?] at d87
                  have hcv := own_string (P := Try.prog) Try.underlying111 Try.underlying5 Try.underlying9 (Kd.own_of_R d87)
                  refine value_ (w1 := w') (v := .string (strOfNums ([x12_7] : List Int))) rfl rfl ?_ (hK.out _ _ (Below.refl _ _) rfl)
                  (first | (go_simp; done) | (go_simp; rfl) | (unfold execOp; go_simp; rfl))
                 ·intro a w' hbel hout hdep K hK
                  have d85 : a.tmps.getD 85 undef = (.string ((((strOfNums ([a0_0 % 256] : List Int)) ++ t222) ++ t201) ++ t226) : Value) := hdep 0 _ rfl rfl _ 85 rfl rfl
                  have d88 : a.tmps.getD 88 undef = (.string (strOfNums ([x12_7] : List Int)) : Value) := hdep 1 _ rfl rfl _ 88 rfl rfl
                  rw [Array.getD_eq_getD_getElem?] at d85
                  rw [Array.getD_eq_getD_getElem?] at d88
                  refine value_ (w1 := w') (v := .string (((((strOfNums ([a0_0 % 256] : List Int)) ++ t222) ++ t201) ++ t226) ++ (strOfNums ([x12_7] : List Int)))) rfl rfl ?_ (hK.out _ _ (Below.refl _ _) rfl)
                  (first | (go_simp; done) | (go_simp; rfl) | (unfold execOp; go_simp; rfl))
                 ·intro a w' hbel hout hdep K hK
                  have d6 : a.tmps.getD 6 undef = (.string t203 : Value) := (hout 6 z11_).trans rfl
                  rw [Array.getD_eq_getD_getElem?] at d6
                  refine value_ (w1 := w') (v := .string t203) rfl rfl ?_ (hK.out _ _ (Below.refl _ _) rfl)
                  (first | (go_simp; done) | (go_simp; rfl) | (unfold execOp; go_simp; rfl))
                 ·intro a w' hbel hout hdep K hK
                  have d89 : a.tmps.getD 89 undef = (.string (((((strOfNums ([a0_0 % 256] : List Int)) ++ t222) ++ t201) ++ t226) ++ (strOfNums ([x12_7] : List Int))) : Value) := hdep 0 _ rfl rfl _ 89 rfl rfl
                  have d90 : a.tmps.getD 90 undef = (.string t203 : Value) := hdep 1 _ rfl rfl _ 90 rfl rfl
                  rw [Array.getD_eq_getD_getElem?] at d89
                  rw [Array.getD_eq_getD_getElem?] at d90
                  refine value_ (w1 := w') (v := .string ((((((strOfNums ([a0_0 % 256] : List Int)) ++ t222) ++ t201) ++ t226) ++ (strOfNums ([x12_7] : List Int))) ++ t203)) rfl rfl ?_ (hK.out _ _ (Below.refl _ _) rfl)
                  (first | (go_simp; done) | (go_simp; rfl) | (unfold execOp; go_simp; rfl))
                 ·intro a w' hbel hout hdep K hK
                  have d1 : a.tmps.getD 1 undef = (.pointer (some ⟨gb199, 0, none⟩) : Value) := (hout 1 z11_).trans rfl
                  rw [Array.getD_eq_getD_getElem?] at d1
                  refine value_ (w1 := w') (v := .pointer (some ⟨gb199, 7, none⟩)) rfl rfl ?_ (hK.out _ _ (Below.refl _ _) rfl)
                  (first | (go_simp; done) | (go_simp; rfl) | (unfold execOp; go_simp; rfl))
                 ·intro a w' hbel hout hdep K hK
                  have d92 : a.tmps.getD 92 undef = (.pointer (some ⟨gb199, 7, none⟩) : Value) := hdep 0 _ rfl rfl _ 92 rfl rfl
                  rw [Array.getD_eq_getD_getElem?] at d92
                  refine value_ (w1 := w') (v := .pointer (some ⟨gb199, 8, none⟩)) rfl rfl ?_ (hK.out _ _ (Below.refl _ _) rfl)
                  (first | (go_simp; done) | (go_simp; rfl) | (unfold execOp; go_simp; rfl))
                 ·intro a w' hbel hout hdep K hK
                  have d93 : a.tmps.getD 93 undef = (.pointer (some ⟨gb199, 8, none⟩) : Value) := hdep 0 _ rfl rfl _ 93 rfl rfl
                  rw [Array.getD_eq_getD_getElem?] at d93
                  have c0 : w'.cell? ⟨gb199, 8, none⟩ = some (.int .i64 a0_8) := (blk_cell (blk_below (blk_drew BK199.out) hbel) 8).trans rfl
                  refine value_ (w1 := w') (v := .int .i64 a0_8) rfl rfl ?_ (hK.out _ _ (Below.refl _ _) rfl)
                  (first | (go_simp; done) | (go_simp; rfl) | (unfold execOp; go_simp; rfl))
                 ·intro a w' hbel hout hdep K hK
                  have d94 : a.tmps.getD 94 undef = (.int .i64 a0_8 : Value) := hdep 0 _ rfl rfl _ 94 rfl rfl
                  rw [Array.getD_eq_getD_getElem?] at d94
                  refine Kd.R_lit_step (Kd.int .i64) (w0 := w) w.heap.size 3 rfl (N := 95) rfl (xs := ([a0_8] : List Int)) (inner := [.int .i64 a0_8]) (ok := fun _ => True) (okp := fun _ => True) ?hr ?hp (fun _ _ => trivial) trivial (below_step (below_drew1 HB.out) hbel) (Nat.le_trans HB.out.size hbel.size) (by simp) ?_
                  (case hr => exact z79_)
                  (case hp => exact (Reps.one (show Kd.M (Kd.int .i64) _ _ _ (a0_8) [.int .i64 a0_8] from rfl) (Reps.none _ _)))
                  intro v1 w2 h1 h2 h3 h4
                  exact hK.out _ _ (pw_below_grown (Below.refl w'.heap.size w') none (Nat.le_refl _) h3 (fun k hk => by cases hk)) h1
                 ·intro a w' hbel hout hdep K hK
                  have d95 : (Kd.int .i64).R 3 w' w.heap.size (fun _ => True) (a.tmps.getD 95 undef) ([a0_8] : List Int) := hdep 0 _ rfl rfl _ 95 rfl rfl
                  obtain ⟨A, c, hv, hc, hC⟩ := Kd.R_reads d95
                  refine goes_ Try.func41 z11_ rfl #[.slice A ([a0_8] : List Int).length c] rfl rfl rfl z80_ ?_
                  refine (msg_eight.calls k2 A c ([a0_8] : List Int) t233 w' hC hc B38).mono ?_
                  rintro e w2 ⟨rfl, hb⟩
                  exact ⟨_, rfl, hK.out _ _ hb rfl⟩
                 ·intro a w' hbel hout hdep K hK
                  have d91 : a.tmps.getD 91 undef = (.string ((((((strOfNums ([a0_0 % 256] : List Int)) ++ t222) ++ t201) ++ t226) ++ (strOfNums ([x12_7] : List Int))) ++ t203) : Value) := hdep 0 _ rfl rfl _ 91 rfl rfl
                  have d96 : a.tmps.getD 96 undef = (.string t233 : Value) := hdep 1 _ rfl rfl _ 96 rfl rfl
                  rw [Array.getD_eq_getD_getElem?] at d91
                  rw [Array.getD_eq_getD_getElem?] at d96
                  refine value_ (w1 := w') (v := .string (((((((strOfNums ([a0_0 % 256] : List Int)) ++ t222) ++ t201) ++ t226) ++ (strOfNums ([x12_7] : List Int))) ++ t203) ++ t233)) rfl rfl ?_ (hK.out _ _ (Below.refl _ _) rfl)
                  (first | (go_simp; done) | (go_simp; rfl) | (unfold execOp; go_simp; rfl))
                 ·intro a w' hbel hout hdep K hK
                  have d8 : a.tmps.getD 8 undef = (.string t205 : Value) := (hout 8 z11_).trans rfl
                  rw [Array.getD_eq_getD_getElem?] at d8
                  refine value_ (w1 := w') (v := .string t205) rfl rfl ?_ (hK.out _ _ (Below.refl _ _) rfl)
                  (first | (go_simp; done) | (go_simp; rfl) | (unfold execOp; go_simp; rfl))
                 ·intro a w' hbel hout hdep K hK
                  have d97 : a.tmps.getD 97 undef = (.string (((((((strOfNums ([a0_0 % 256] : List Int)) ++ t222) ++ t201) ++ t226) ++ (strOfNums ([x12_7] : List Int))) ++ t203) ++ t233) : Value) := hdep 0 _ rfl rfl _ 97 rfl rfl
                  have d98 : a.tmps.getD 98 undef = (.string t205 : Value) := hdep 1 _ rfl rfl _ 98 rfl rfl
                  rw [Array.getD_eq_getD_getElem?] at d97
                  rw [Array.getD_eq_getD_getElem?] at d98
                  refine value_ (w1 := w') (v := .string ((((((((strOfNums ([a0_0 % 256] : List Int)) ++ t222) ++ t201) ++ t226) ++ (strOfNums ([x12_7] : List Int))) ++ t203) ++ t233) ++ t205)) rfl rfl ?_ (hK.out _ _ (Below.refl _ _) rfl)
                  (first | (go_simp; done) | (go_simp; rfl) | (unfold execOp; go_simp; rfl))
                 ·intro a w' hbel hout hdep K hK
                  have d13 : a.tmps.getD 13 undef = (u13 : Value) := (hout 13 z11_).trans rfl
                  rw [Array.getD_eq_getD_getElem?] at d13
                  refine value_ (w1 := w') (v := u13) rfl rfl ?_ (hK.out _ _ (Below.refl _ _) (Kd.R_below (Kd.R_drew HO_13.out) hbel))
                  (first | (go_simp; done) | (go_simp; rfl) | (unfold execOp; go_simp; rfl))
                 ·intro a w' hbel hout hdep K hK
                  have d100 : (Kd.int .u8).R 5 w' w.heap.size (fun _ => True) (a.tmps.getD 100 undef) x13_2 := hdep 0 _ rfl rfl _ 100 rfl rfl
                  rw [Array.getD_eq_getD_getElem?] at d100
                  have hcv := own_string (P := Try.prog) Try.underlying111 Try.underlying5 Try.underlying9 (Kd.own_of_R d100)
                  refine value_ (w1 := w') (v := .string (strOfNums x13_2)) rfl rfl ?_ (hK.out _ _ (Below.refl _ _) rfl)
                  (first | (go_simp; done) | (go_simp; rfl) | (unfold execOp; go_simp; rfl))
                 ·intro a w' hbel hout hdep K hK
                  have d99 : a.tmps.getD 99 undef = (.string ((((((((strOfNums ([a0_0 % 256] : List Int)) ++ t222) ++ t201) ++ t226) ++ (strOfNums ([x12_7] : List Int))) ++ t203) ++ t233) ++ t205) : Value) := hdep 0 _ rfl rfl _ 99 rfl rfl
                  have d101 : a.tmps.getD 101 undef = (.string (strOfNums x13_2) : Value) := hdep 1 _ rfl rfl _ 101 rfl rfl
                  rw [Array.getD_eq_getD_getElem?] at d99
                  rw [Array.getD_eq_getD_getElem?] at d101
                  refine value_ (w1 := w') (v := .string (((((((((strOfNums ([a0_0 % 256] : List Int)) ++ t222) ++ t201) ++ t226) ++ (strOfNums ([x12_7] : List Int))) ++ t203) ++ t233) ++ t205) ++ (strOfNums x13_2))) rfl rfl ?_ (hK.out _ _ (Below.refl _ _) rfl)
                  (first | (go_simp; done) | (go_simp; rfl) | (unfold execOp; go_simp; rfl))
                 ·intro a w' hbel hout hdep K hK
                  have d1 : a.tmps.getD 1 undef = (.pointer (some ⟨gb199, 0, none⟩) : Value) := (hout 1 z11_).trans rfl
                  rw [Array.getD_eq_getD_getElem?] at d1
                  refine value_ (w1 := w') (v := .pointer (some ⟨gb199, 11, none⟩)) rfl rfl ?_ (hK.out _ _ (Below.refl _ _) rfl)
                  (first | (go_simp; done) | (go_simp; rfl) | (unfold execOp; go_simp; rfl))
                 ·intro a w' hbel hout hdep K hK
                  have d103 : a.tmps.getD 103 undef = (.pointer (some ⟨gb199, 11, none⟩) : Value) := hdep 0 _ rfl rfl _ 103 rfl rfl
                  rw [Array.getD_eq_getD_getElem?] at d103
                  refine value_ (w1 := w') (v := .pointer (some ⟨gb199, 11, none⟩)) rfl rfl ?_ (hK.out _ _ (Below.refl _ _) rfl)
                  (first | (go_simp; done) | (go_simp; rfl) | (unfold execOp; go_simp; rfl))
                 ·intro a w' hbel hout hdep K hK
                  have d104 : a.tmps.getD 104 undef = (.pointer (some ⟨gb199, 11, none⟩) : Value) := hdep 0 _ rfl rfl _ 104 rfl rfl
                  rw [Array.getD_eq_getD_getElem?] at d104
                  have c0 : w'.cell? ⟨gb199, 11, none⟩ = some (.int .i64 a0_11) := (blk_cell (blk_below (blk_drew BK199.out) hbel) 11).trans rfl
                  refine value_ (w1 := w') (v := .int .i64 a0_11) rfl rfl ?_ (hK.out _ _ (Below.refl _ _) rfl)
                  (first | (go_simp; done) | (go_simp; rfl) | (unfold execOp; go_simp; rfl))
                 ·intro a w' hbel hout hdep K hK
                  have d1 : a.tmps.getD 1 undef = (.pointer (some ⟨gb199, 0, none⟩) : Value) := (hout 1 z11_).trans rfl
                  rw [Array.getD_eq_getD_getElem?] at d1
                  refine value_ (w1 := w') (v := .pointer (some ⟨gb199, 11, none⟩)) rfl rfl ?_ (hK.out _ _ (Below.refl _ _) rfl)
                  (first | (go_simp; done) | (go_simp; rfl) | (unfold execOp; go_simp; rfl))
                 ·intro a w' hbel hout hdep K hK
                  have d106 : a.tmps.getD 106 undef = (.pointer (some ⟨gb199, 11, none⟩) : Value) := hdep 0 _ rfl rfl _ 106 rfl rfl
                  rw [Array.getD_eq_getD_getElem?] at d106
                  refine value_ (w1 := w') (v := .pointer (some ⟨gb199, 12, none⟩)) rfl rfl ?_ (hK.out _ _ (Below.refl _ _) rfl)
                  (first | (go_simp; done) | (go_simp; rfl) | (unfold execOp; go_simp; rfl))
                 ·intro a w' hbel hout hdep K hK
                  have d107 : a.tmps.getD 107 undef = (.pointer (some ⟨gb199, 12, none⟩) : Value) := hdep 0 _ rfl rfl _ 107 rfl rfl
                  rw [Array.getD_eq_getD_getElem?] at d107
                  have c0 : w'.cell? ⟨gb199, 12, none⟩ = some (.int .i64 a0_12) := (blk_cell (blk_below (blk_drew BK199.out) hbel) 12).trans rfl
                  refine value_ (w1 := w') (v := .int .i64 a0_12) rfl rfl ?_ (hK.out _ _ (Below.refl _ _) rfl)
                  (first | (go_simp; done) | (go_simp; rfl) | (unfold execOp; go_simp; rfl))
                 ·intro a w' hbel hout hdep K hK
                  have d105 : a.tmps.getD 105 undef = (.int .i64 a0_11 : Value) := hdep 0 _ rfl rfl _ 105 rfl rfl
                  have d108 : a.tmps.getD 108 undef = (.int .i64 a0_12 : Value) := hdep 1 _ rfl rfl _ 108 rfl rfl
                  rw [Array.getD_eq_getD_getElem?] at d105
                  rw [Array.getD_eq_getD_getElem?] at d108
                  refine Kd.R_lit_step (Kd.int .i64) (w0 := w) w.heap.size 3 rfl (N := 109) rfl (xs := ([a0_11, a0_12] : List Int)) (inner := [.int .i64 a0_11, .int .i64 a0_12]) (ok := fun _ => True) (okp := fun _ => True) ?hr ?hp (fun _ _ => trivial) trivial (below_step (below_drew1 HB.out) hbel) (Nat.le_trans HB.out.size hbel.size) (by simp) ?_
                  (case hr => exact z79_)
                  (case hp => exact (Reps.one (show Kd.M (Kd.int .i64) _ _ _ (a0_11) [.int .i64 a0_11] from rfl) (Reps.one (show Kd.M (Kd.int .i64) _ _ _ (a0_12) [.int .i64 a0_12] from rfl) (Reps.none _ _))))
                  intro v1 w2 h1 h2 h3 h4
                  exact hK.out _ _ (pw_below_grown (Below.refl w'.heap.size w') none (Nat.le_refl _) h3 (fun k hk => by cases hk)) h1
                 ·intro a w' hbel hout hdep K hK
                  have d109 : (Kd.int .i64).R 3 w' w.heap.size (fun _ => True) (a.tmps.getD 109 undef) ([a0_11, a0_12] : List Int) := hdep 0 _ rfl rfl _ 109 rfl rfl
                  obtain ⟨A, c, hv, hc, hC⟩ := Kd.R_reads d109
                  refine goes_ Try.func41 z11_ rfl #[.slice A ([a0_11, a0_12] : List Int).length c] rfl rfl rfl z80_ ?_
                  refine (msg_eight.calls k2 A c ([a0_11, a0_12] : List Int) t237 w' hC hc B42).mono ?_
                  rintro e w2 ⟨rfl, hb⟩
                  exact ⟨_, rfl, hK.out _ _ hb rfl⟩
                 ·intro a w' hbel hout hdep K hK
                  have d102 : a.tmps.getD 102 undef = (.string (((((((((strOfNums ([a0_0 % 256] : List Int)) ++ t222) ++ t201) ++ t226) ++ (strOfNums ([x12_7] : List Int))) ++ t203) ++ t233) ++ t205) ++ (strOfNums x13_2)) : Value) := hdep 0 _ rfl rfl _ 102 rfl rfl
                  have d110 : a.tmps.getD 110 undef = (.string t237 : Value) := hdep 1 _ rfl rfl _ 110 rfl rfl
                  rw [Array.getD_eq_getD_getElem?] at d102
                  rw [Array.getD_eq_getD_getElem?] at d110
                  refine value_ (w1 := w') (v := .string ((((((((((strOfNums ([a0_0 % 256] : List Int)) ++ t222) ++ t201) ++ t226) ++ (strOfNums ([x12_7] : List Int))) ++ t203) ++ t233) ++ t205) ++ (strOfNums x13_2)) ++ t237)) rfl rfl ?_ (hK.out _ _ (Below.refl _ _) rfl)
                  (first | (go_simp; done) | (go_simp; rfl) | (unfold execOp; go_simp; rfl))
                 ·intro a w' hbel hout hdep K hK
                  have d10 : a.tmps.getD 10 undef = (.string t207 : Value) := (hout 10 z11_).trans rfl
                  rw [Array.getD_eq_getD_getElem?] at d10
                  refine value_ (w1 := w') (v := .string t207) rfl rfl ?_ (hK.out _ _ (Below.refl _ _) rfl)
                  (first | (go_simp; done) | (go_simp; rfl) | (unfold execOp; go_simp; rfl))
                 ·intro a w' hbel hout hdep K hK
                  have d111 : a.tmps.getD 111 undef = (.string ((((((((((strOfNums ([a0_0 % 256] : List Int)) ++ t222) ++ t201) ++ t226) ++ (strOfNums ([x12_7] : List Int))) ++ t203) ++ t233) ++ t205) ++ (strOfNums x13_2)) ++ t237) : Value) := hdep 0 _ rfl rfl _ 111 rfl rfl
                  have d112 : a.tmps.getD 112 undef = (.string t207 : Value) := hdep 1 _ rfl rfl _ 112 rfl rfl
                  rw [Array.getD_eq_getD_getElem?] at d111
                  rw [Array.getD_eq_getD_getElem?] at d112
                  refine value_ (w1 := w') (v := .string (((((((((((strOfNums ([a0_0 % 256] : List Int)) ++ t222) ++ t201) ++ t226) ++ (strOfNums ([x12_7] : List Int))) ++ t203) ++ t233) ++ t205) ++ (strOfNums x13_2)) ++ t237) ++ t207)) rfl rfl ?_ (hK.out _ _ (Below.refl _ _) rfl)
                  (first | (go_simp; done) | (go_simp; rfl) | (unfold execOp; go_simp; rfl))
                 ·intro a w' hbel hout hdep K hK
                  have d113 : a.tmps.getD 113 undef = (.string (((((((((((strOfNums ([a0_0 % 256] : List Int)) ++ t222) ++ t201) ++ t226) ++ (strOfNums ([x12_7] : List Int))) ++ t203) ++ t233) ++ t205) ++ (strOfNums x13_2)) ++ t237) ++ t207) : Value) := hdep 0 _ rfl rfl _ 113 rfl rfl
                  rw [Array.getD_eq_getD_getElem?] at d113
                  refine value_ (w1 := w') (v := .string (((((((((((strOfNums ([a0_0 % 256] : List Int)) ++ t222) ++ t201) ++ t226) ++ (strOfNums ([x12_7] : List Int))) ++ t203) ++ t233) ++ t205) ++ (strOfNums x13_2)) ++ t237) ++ t207)) rfl rfl ?_ (hK.out _ _ (Below.refl _ _) rfl)
                  (first | (go_simp; done) | (go_simp; rfl) | (unfold execOp; go_simp; rfl))
                 ·intro a w' hbel hout hdep K hK
                  refine value_ (w1 := w') (v := .int .i64 0) rfl rfl ?_ (hK.out _ _ (Below.refl _ _) rfl)
                  (first | (go_simp; done) | (go_simp; rfl) | (unfold execOp; go_simp; rfl))
                 ·intro a w' hbel hds hall
                  have r2 : a.tmps.getD 2 undef = (.string (((((((((((strOfNums ([a0_0 % 256] : List Int)) ++ t222) ++ t201) ++ t226) ++ (strOfNums ([x12_7] : List Int))) ++ t203) ++ t233) ++ t205) ++ (strOfNums x13_2)) ++ t237) ++ t207) : Value) := hall 49 _ 2 rfl rfl
                  have r3 : a.tmps.getD 3 undef = (.int .i64 0 : Value) := hall 50 _ 3 rfl rfl
                  go_wp2
                  refine bodyPost_ret (results_tmp2 rfl _ _ _) (hds.trans rfl) ?_
                  rw [r2, r3]
                  exact ⟨rfl, below_step (below_drew1 HB.out) hbel⟩
                ·rw [if_neg c44] at H
                 exact absurd H (by simp)
               ·rw [if_neg c43] at H
                exact absurd H (by simp)
              ·rw [if_neg c41] at H
               exact absurd H (by simp)
             ·rw [if_neg c40] at H
              exact absurd H (by simp)
            ·rw [if_neg c39] at H
             exact absurd H (by simp)
           ·rw [if_neg c37] at H
            exact absurd H (by simp)
          ·rw [if_neg c36] at H
           exact absurd H (by simp)
         ·rw [if_neg c35] at H
          exact absurd H (by simp)
        ·rw [if_neg c33] at H
         exact absurd H (by simp)
       ·rw [if_neg c32] at H
        exact absurd H (by simp)
 ·replace c3 := Bool.eq_false_iff.mpr c3
  subst c3
  rw [if_neg (show ¬ (false = true) from z17_)] at H
  simp only [Option.some.injEq, Prod.mk.injEq] at H
  obtain ⟨rfl, rfl⟩ := H
  go_enter Try.func10, Try.ntmps10
  go_wp2_with (first | ((with_reducible refine gate_dst (N := 1) rfl ?_); refine box_event ?hg (N := 1) ?hd (cs := #[.int .i64 a0_0, .int .i64 a0_1, .slice A0_2 l0_2.length c0_2, .int .i64 a0_3, .int .i64 a0_4, .int .i64 a0_5, .bool a0_6, .slice A0_7 l0_7.length c0_7, .int .i64 a0_8, .slice A0_9 l0_9.length c0_9, .slice A0_10 l0_10.length c0_10, .int .i64 a0_11, .int .i64 a0_12, .slice A0_13 l0_13.length c0_13]) (t := 53) ?hr ?_; (case hd => rfl); (case hg => rfl); (case hr => exact z7_); intro gb199 hg w73 hbox hb; have n0_ := a0_ (below_step z6_ hb); have n1_ := a0_ (hbox); have n2_ := a0_ ((z8_ : w.heap.size ≤ gb199)); have n3_ := a0_ ((z8_ : w.heap.size ≤ gb199)); clear HB; have HB := n0_; have BK199 := n1_; have GW199 := n2_; have GE199 := n3_; clear n0_ n1_ n2_ n3_; clear hb hbox hg; obtain ⟨hcz74_0, hcz74_1, hcz74_2, hcz74_3, hcz74_4, hcz74_5, hcz74_6, hcz74_7, hcz74_8, hcz74_9, hcz74_10, hcz74_11, hcz74_12, hcz74_13⟩ := bc14_ BK199.out) | ((with_reducible refine gate_callee (f := 37) rfl ?_); refine goesL_ (some 17) rfl rfl Try.func37 z11_ rfl #[.agg #[.int .i64 a0_0, .int .i64 a0_1, .slice A0_2 l0_2.length c0_2, .int .i64 a0_3, .int .i64 a0_4, .int .i64 a0_5, .bool a0_6, .slice A0_7 l0_7.length c0_7, .int .i64 a0_8, .slice A0_9 l0_9.length c0_9, .slice A0_10 l0_10.length c0_10, .int .i64 a0_11, .int .i64 a0_12, .slice A0_13 l0_13.length c0_13]] rfl z12_ ?_; (with_reducible refine (msg_Right.calls k a0_0 a0_1 _ _ l0_2 a0_3 a0_4 a0_5 a0_6 _ _ l0_7 a0_8 _ _ l0_9 _ _ l0_10 a0_11 a0_12 _ _ l0_13 false _ ?side1 ?side2 ?side3 ?side4 ?side5 ?side6 ?side7 ?side8 ?side9 ?side10 A2.out).mono ?_); (case side1 => exact z64_); (case side2 => exact z65_); (case side3 => exact z58_); (case side4 => exact z59_); (case side5 => exact z60_); (case side6 => exact z61_); (case side7 => exact z54_); (case side8 => exact HC0_10.out); (case side9 => exact z62_); (case side10 => exact z63_); rintro e w75 ⟨rfl, hb⟩; refine ⟨_, rfl, ?_⟩; replace BK199 := a0_ (blk_below z76_ hb); replace HB := a0_ (below_step z77_ hb); (try clear hb); (try clear hb2); (try clear hk); (try clear hi)))
  go_ret2
  exact ⟨z3_, z77_⟩
end Go.Proofs.Ytecfndblgefhdaa.P
