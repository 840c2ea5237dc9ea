import Derived.Test.YtgfmdfgibkkfaaaKaPx0
import Derived.Test.YtgfmdfgibkkfaaaKaPx2
import Derived.Test.YtgfmdfgibkkfaaaKaEndsP
set_option linter.unusedVariables false
set_option linter.unusedSimpArgs false
namespace Go.Proofs.Ytgfmdfgibkkfaaa.P
open Go.RowKit Go.Proofs.YtgfmdfgibkkfaaaW.PrintWords Go.Proofs.YtgfmdfgibkkfaaaW.PrintLast Go.Proofs.YtgfmdfgibkkfaaaW.PrintMore
attribute [local go_sem] max2_int min2_int max_two min_two max_three min_three max_four min_four
def LS.zero : LS := ⟨⟨0, 0, 0, [], 0⟩, ⟨0, 0, 0, [], 0⟩, [], [], [], [], []⟩
def LS.half : LS := { LS.zero with x0 := ⟨3, 0, 1, [], 1⟩ }
def LS.init : LS := { LS.half with x1 := ⟨4, 0, 1, [], 1⟩ }
def LS.start (j : Nat) : LS := if j = 0 then LS.zero else if j = 1 then LS.half else LS.init
theorem new3 : link_New.f 3 = some (3, 0, 1, [], 1, 0) := by rfl
theorem new4 : link_New.f 4 = some (4, 0, 1, [], 1, 0) := by rfl
theorem EV.zero (w : World) : EV w.heap.size (w.alloc (.cells #[.int .i64 0, .int .i64 0, .int .i64 0, .slice none 0 0, .int .i64 0, .int .i64 0, .int .i64 0, .int .i64 0, .slice none 0 0, .int .i64 0, .slice none 0 0, .slice none 0 0, .slice none 0 0, .slice none 0 0, .slice none 0 0] 61 (0, 0))) w.heap.size LS.zero (fun _ => 7) (.slice none 0 0) (.slice none 0 0) (.slice none 0 0) (.slice none 0 0) (.slice none 0 0) (.slice none 0 0) (.slice none 0 0) :=
  ⟨blk_new w _, Nat.le_refl _, rfl, Kd.Q_nil _ _ _ _ _, Kd.Q_nil _ _ _ _ _, Kd.R_nil _ _ _ _ _, Kd.R_nil _ _ _ _ _, Kd.R_nil _ _ _ _ _, Kd.R_nil _ _ _ _ _, Kd.R_nil _ _ _ _ _⟩
set_option maxHeartbeats 4000000 in
set_option maxRecDepth 100000 in
theorem ends_line.calls (w : World) :
    Calls Try.prog 24 #[] w fun e w' => ∃ g, e = .returned (.tuple #[.pointer (some ⟨g, 0, none⟩), .bool true]) ∧ Ends w.heap.size w' g LS.init ∧ Below w.heap.size w w' := by
  have HB0 := Aside0.mk (below_alloc (Below.refl w.heap.size w) (.cells #[.int .i64 0, .int .i64 0, .int .i64 0, .slice none 0 0, .int .i64 0, .int .i64 0, .int .i64 0, .int .i64 0, .slice none 0 0, .int .i64 0, .slice none 0 0, .slice none 0 0, .slice none 0 0, .slice none 0 0, .slice none 0 0] 61 (0, 0)))
  have HE0 : Aside0 (Ends w.heap.size (w.alloc (.cells #[.int .i64 0, .int .i64 0, .int .i64 0, .slice none 0 0, .int .i64 0, .int .i64 0, .int .i64 0, .int .i64 0, .slice none 0 0, .int .i64 0, .slice none 0 0, .slice none 0 0, .slice none 0 0, .slice none 0 0, .slice none 0 0] 61 (0, 0))) w.heap.size LS.zero) := ⟨⟨_, _, _, _, _, _, _, _, EV.zero w⟩⟩
  go_enter Try.func24, Try.ntmps24
  go_upto_region 2 with (fail)
  generalize w.alloc (.cells #[.int .i64 0, .int .i64 0, .int .i64 0, .slice none 0 0, .int .i64 0, .int .i64 0, .int .i64 0, .int .i64 0, .slice none 0 0, .int .i64 0, .slice none 0 0, .slice none 0 0, .slice none 0 0, .slice none 0 0, .slice none 0 0] 61 (0, 0)) = W0 at HB0 HE0 ⊢
  have HS0 := Aside0.mk HB0.out.size
  obtain ⟨b, hbs⟩ : ∃ b, b = w.heap.size := ⟨_, rfl⟩
  rw [← hbs] at HB0 HE0 HS0 ⊢
  have HBS := Aside0.mk hbs
  clear hbs
  go_wp2
  go_loopw [6] (fun i wr => ∃ j : Nat, j ≤ 2 ∧ i = .int .i64 j ∧ Aside0 (Ends b wr b (LS.start j)) ∧ Aside0 (Below b w wr) ∧ Aside0 (b ≤ wr.heap.size)) (fun i _ => 2 - (intOf i).toNat)
  case atStart => exact ⟨0, by omega, rfl, HE0, HB0, HS0⟩
  case round =>
    clear HE0 HB0 HS0
    obtain ⟨j, hj, rfl, HE, HB, HS⟩ := hrel
    have hcases : j = 0 ∨ j = 1 ∨ j = 2 := by omega
    rcases hcases with rfl | rfl | rfl
    · obtain ⟨f, v0, v1, vn, q0, q1, r0, r1, hev⟩ := HE.out
      have HEV := Aside0.mk hev
      clear hev
      have e1 : wrap64 (0 + 3) = 3 := by unfold wrap64; omega
      have e2 : wrap64 3 = 3 := by unfold wrap64; omega
      have e3 : wrap64 (0 + 1) = 1 := by unfold wrap64; omega
      have e4 : wrap64 1 = 1 := by unfold wrap64; omega
      go_wp2_with fail
      (with_reducible refine (link_New.calls 3 3 0 1 [] 1 0 _ new3).mono ?_)
      rintro e w1 ⟨vy, rfl, ho, hb1⟩
      obtain ⟨A1, c1, rfl⟩ := Kd.R_slice ho
      have HD := Aside0.mk (PI.start HEV.out HS.out hb1 ho 0 #[.int .i64 3, .int .i64 0, .int .i64 1, .slice A1 ([] : List ByteArray).length c1, .int .i64 1])
      clear ho hb1
      go_upto_region 8 with (fail)
      generalize w1.alloc (.cells #[.int .i64 3, .int .i64 0, .int .i64 1, .slice A1 ([] : List ByteArray).length c1, .int .i64 1] 24 (0, 0)) = w3 at HD ⊢
      generalize w1.heap.size = gy at HD ⊢
      have a0 : w3.cell? ⟨b, 0, none⟩ = some (.int .i64 0) := (blk_cell HD.out.blk 0).trans rfl
      have a1 : w3.cell? ⟨b, 1, none⟩ = some (.int .i64 0) := (blk_cell HD.out.blk 1).trans rfl
      have a2 : w3.cell? ⟨b, 2, none⟩ = some (.int .i64 0) := (blk_cell HD.out.blk 2).trans rfl
      have a3 : w3.cell? ⟨b, 3, none⟩ = some (v0) := (blk_cell HD.out.blk 3).trans rfl
      have a4 : w3.cell? ⟨b, 4, none⟩ = some (.int .i64 0) := (blk_cell HD.out.blk 4).trans rfl
      have d0 : w3.cell? ⟨gy, 0, none⟩ = some (.int .i64 3) := (blk_cell HD.out.ye 0).trans rfl
      have d1 : w3.cell? ⟨gy, 1, none⟩ = some (.int .i64 0) := (blk_cell HD.out.ye 1).trans rfl
      have d2 : w3.cell? ⟨gy, 2, none⟩ = some (.int .i64 1) := (blk_cell HD.out.ye 2).trans rfl
      have d3 : w3.cell? ⟨gy, 3, none⟩ = some (.slice A1 ([] : List ByteArray).length c1) := (blk_cell HD.out.ye 3).trans rfl
      have d4 : w3.cell? ⟨gy, 4, none⟩ = some (.int .i64 1) := (blk_cell HD.out.ye 4).trans rfl
      have b0 : w3.frozen? ⟨b, 0, none⟩ = false := blk_frozen HD.out.blk 0
      have b1 : w3.frozen? ⟨b, 1, none⟩ = false := blk_frozen HD.out.blk 1
      have b2 : w3.frozen? ⟨b, 2, none⟩ = false := blk_frozen HD.out.blk 2
      have b3 : w3.frozen? ⟨b, 3, none⟩ = false := blk_frozen HD.out.blk 3
      have b4 : w3.frozen? ⟨b, 4, none⟩ = false := blk_frozen HD.out.blk 4
      go_wp2
      replace HD := Aside0.mk (HD.out.setX0 (⟨3, 0, 1, [], 1⟩ : S24) rfl)
      have HE2 : Aside0 (Ends b _ b (LS.start 1)) := ⟨by obtain ⟨f2, he2, _⟩ := HD.out.ev; exact ⟨f2, _, _, _, _, _, _, _, he2⟩⟩
      have HB2 := Aside0.mk (HB.out.trans HD.out.hb)
      have HS2 := Aside0.mk HD.out.hs
      go_roundw
      case rel => exact ⟨1, by omega, by go_num, HE2, HB2, HS2⟩
      case measure => simp [intOf]
    · obtain ⟨f, v0, v1, vn, q0, q1, r0, r1, hev⟩ := HE.out
      have HEV := Aside0.mk hev
      clear hev
      have e1 : wrap64 (1 + 3) = 4 := by unfold wrap64; omega
      have e2 : wrap64 4 = 4 := by unfold wrap64; omega
      have e3 : wrap64 (1 + 1) = 2 := by unfold wrap64; omega
      have e4 : wrap64 2 = 2 := by unfold wrap64; omega
      go_wp2_with fail
      (with_reducible refine (link_New.calls 4 4 0 1 [] 1 0 _ new4).mono ?_)
      rintro e w1 ⟨vy, rfl, ho, hb1⟩
      obtain ⟨A1, c1, rfl⟩ := Kd.R_slice ho
      have HD := Aside0.mk (PI.start HEV.out HS.out hb1 ho 1 #[.int .i64 4, .int .i64 0, .int .i64 1, .slice A1 ([] : List ByteArray).length c1, .int .i64 1])
      clear ho hb1
      go_upto_region 8 with (fail)
      generalize w1.alloc (.cells #[.int .i64 4, .int .i64 0, .int .i64 1, .slice A1 ([] : List ByteArray).length c1, .int .i64 1] 24 (0, 0)) = w3 at HD ⊢
      generalize w1.heap.size = gy at HD ⊢
      have a0 : w3.cell? ⟨b, 5, none⟩ = some (.int .i64 0) := (blk_cell HD.out.blk 5).trans rfl
      have a1 : w3.cell? ⟨b, 6, none⟩ = some (.int .i64 0) := (blk_cell HD.out.blk 6).trans rfl
      have a2 : w3.cell? ⟨b, 7, none⟩ = some (.int .i64 0) := (blk_cell HD.out.blk 7).trans rfl
      have a3 : w3.cell? ⟨b, 8, none⟩ = some (v1) := (blk_cell HD.out.blk 8).trans rfl
      have a4 : w3.cell? ⟨b, 9, none⟩ = some (.int .i64 0) := (blk_cell HD.out.blk 9).trans rfl
      have d0 : w3.cell? ⟨gy, 0, none⟩ = some (.int .i64 4) := (blk_cell HD.out.ye 0).trans rfl
      have d1 : w3.cell? ⟨gy, 1, none⟩ = some (.int .i64 0) := (blk_cell HD.out.ye 1).trans rfl
      have d2 : w3.cell? ⟨gy, 2, none⟩ = some (.int .i64 1) := (blk_cell HD.out.ye 2).trans rfl
      have d3 : w3.cell? ⟨gy, 3, none⟩ = some (.slice A1 ([] : List ByteArray).length c1) := (blk_cell HD.out.ye 3).trans rfl
      have d4 : w3.cell? ⟨gy, 4, none⟩ = some (.int .i64 1) := (blk_cell HD.out.ye 4).trans rfl
      have b0 : w3.frozen? ⟨b, 5, none⟩ = false := blk_frozen HD.out.blk 5
      have b1 : w3.frozen? ⟨b, 6, none⟩ = false := blk_frozen HD.out.blk 6
      have b2 : w3.frozen? ⟨b, 7, none⟩ = false := blk_frozen HD.out.blk 7
      have b3 : w3.frozen? ⟨b, 8, none⟩ = false := blk_frozen HD.out.blk 8
      have b4 : w3.frozen? ⟨b, 9, none⟩ = false := blk_frozen HD.out.blk 9
      go_wp2
      replace HD := Aside0.mk (HD.out.setX1 (⟨4, 0, 1, [], 1⟩ : S24) rfl)
      have HE2 : Aside0 (Ends b _ b (LS.start 2)) := ⟨by obtain ⟨f2, he2, _⟩ := HD.out.ev; exact ⟨f2, _, _, _, _, _, _, _, he2⟩⟩
      have HB2 := Aside0.mk (HB.out.trans HD.out.hb)
      have HS2 := Aside0.mk HD.out.hs
      go_roundw
      case rel => exact ⟨2, by omega, by go_num, HE2, HB2, HS2⟩
      case measure => simp [intOf]
    · go_wp2
      go_ret2
      exact ⟨b, rfl, by rw [← HBS.out]; exact HE.out, by rw [← HBS.out]; exact HB.out⟩
end Go.Proofs.Ytgfmdfgibkkfaaa.P
