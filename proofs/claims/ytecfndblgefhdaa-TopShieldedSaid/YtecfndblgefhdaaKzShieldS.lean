import Derived.Test.YtecfndblgefhdaaKzShieldR
import Derived.Test.YtecfndblgefhdaaKzSem
import Derived.Test.YtecfndblgefhdaaKzNote
set_option linter.unusedVariables false
set_option linter.unusedSimpArgs false
namespace Go.Proofs.Ytecfndblgefhdaa.Law
open Go.RowKit Go.Proofs.Ytecfndblgefhdaa.R Go.Proofs.Ytecfndblgefhdaa.Sort Go.Proofs.YtecfndblgefhdaaW.PrintWords Go.Proofs.YtecfndblgefhdaaW.PrintLast Go.Proofs.YtecfndblgefhdaaW.PrintMore
theorem Rd.of_R {α : Type} {d : Kd α} {e base : Nat} {w : World} {ok : Nat → Prop} {v : Value} {xs : List α} (h : d.R e w base ok v xs) : Rd d w v xs := by
 obtain ⟨A, c, rfl, hc, hC⟩ := Kd.R_reads h
 exact ⟨A, c, rfl, hc, hC⟩
section
variable {w : World} {A0 A1 : Option Addr} {c0 c1 : Nat}
theorem pick_any_sem {vs : List Vo} {ms : List Mk} (hr0 : Kd.C k137 w A0 vs.length vs) (hc0 : vs.length ≤ c0) (hr1 : Kd.C k141 w A1 ms.length ms) (hc1 : ms.length ≤ c1) (hv : right vs = true) (hl : ms.length ≤ 400000) :
  Calls Try.prog 24 #[.slice A0 vs.length c0, .slice A1 ms.length c1] w fun e w' => ∃ (A : Option Addr) (m c : Nat) (n : Int), e = .returned (.tuple #[.slice A m c, .int .i64 n]) ∧ Aside0 (n = 0 ∧ okMs vs ms ∧ Rd k120 w' (.slice A m c) (pick vs ms) ∨ n ≠ 0) ∧ Below w.heap.size w w' := by
 obtain ⟨⟨r1, r2⟩, hp, k0, hk⟩ := pick_any hv ms hl
 refine (fold_Pick.calls k0 A0 c0 vs A1 c1 ms r1 r2 w hr0 hc0 hr1 hc1 (hk k0 (Nat.le_refl _))).mono ?_
 rintro e w' ⟨v, he, hR, hb⟩
 obtain ⟨A, c, rfl, hc, hC⟩ := Rd.of_R hR
 refine ⟨A, r1.length, c, r2, he, ⟨?_⟩, hb⟩
 rcases hp with ⟨h1, h2⟩ | ⟨h1, h2, h3⟩
 ·injection h2 with h2 h3
  subst h2
  subst h3
  exact .inl ⟨rfl, h1, A, c, rfl, hc, hC⟩
 ·exact .inr h3
theorem pick_sem {vs : List Vo} {ms : List Mk} (hr0 : Kd.C k137 w A0 vs.length vs) (hc0 : vs.length ≤ c0) (hr1 : Kd.C k141 w A1 ms.length ms) (hc1 : ms.length ≤ c1) (hv : right vs = true) (hl : ms.length ≤ 400000) (ho : okMs vs ms) :
  Calls Try.prog 24 #[.slice A0 vs.length c0, .slice A1 ms.length c1] w fun e w' => ∃ (A : Option Addr) (c : Nat), e = .returned (.tuple #[.slice A (pick vs ms).length c, .int .i64 0]) ∧ (pick vs ms).length ≤ c ∧ Kd.C k120 w' A (pick vs ms).length (pick vs ms) ∧ Below w.heap.size w w' := by
 obtain ⟨r, hp, k0, hk⟩ := pick_run hv hl ho
 subst hp
 refine (fold_Pick.calls k0 A0 c0 vs A1 c1 ms _ _ w hr0 hc0 hr1 hc1 (hk k0 (Nat.le_refl _))).mono ?_
 rintro e w' ⟨v, he, hR, hb⟩
 obtain ⟨A, c, rfl, hc, hC⟩ := Rd.of_R hR
 exact ⟨A, c, he, hc, hC, hb⟩
theorem marks_sem {X : List Wr} (hr0 : Kd.C k120 w A0 X.length X) (hc0 : X.length ≤ c0) (hl : X.length ≤ 400000) :
  Calls Try.prog 25 #[.slice A0 X.length c0] w fun e w' => ∃ (A : Option Addr) (c : Nat) (Y : List Wr), e = .returned (.slice A (mks Y).length c) ∧ IsFold X Y ∧ Y.length ≤ X.length ∧ (mks Y).length ≤ c ∧ Kd.C k141 w' A (mks Y).length (mks Y) ∧ Below w.heap.size w w' := by
 obtain ⟨r, ⟨Y, h1, h2, rfl⟩, k0, hk⟩ := marks_run X hl
 refine (fold_Marks.calls k0 A0 c0 X _ w hr0 hc0 (hk k0 (Nat.le_refl _))).mono ?_
 rintro e w' ⟨v, he, hR, hb⟩
 obtain ⟨A, c, rfl, hc, hC⟩ := Rd.of_R hR
 exact ⟨A, c, Y, he, h1, h2, hc, hC, hb⟩
theorem back_sem {vs : List Vo} {Z : List Wr} (hv : right vs = true) (hs : SSrt Z) (ho : okWs vs Z) (hr0 : Kd.C k120 w A0 (pick vs (mks Z)).length (pick vs (mks Z))) (hc0 : (pick vs (mks Z)).length ≤ c0) (hr1 : Kd.C k137 w A1 (app vs Z).length (app vs Z)) (hc1 : (app vs Z).length ≤ c1) :
  Calls Try.prog 27 #[.slice A0 (pick vs (mks Z)).length c0, .slice A1 (app vs Z).length c1] w fun e w' => ∃ (A : Option Addr) (c : Nat), e = .returned (.tuple #[.slice A vs.length c, .int .i64 0]) ∧ vs.length ≤ c ∧ Kd.C k137 w' A vs.length vs ∧ Below w.heap.size w w' := by
 have h8 := SSrt.length hv hs ho
 have hsh : shape (app vs Z) = shape vs := shape_app _ _
 obtain ⟨r, hp, k0, hk⟩ := back_run (right_app ho hv) (X := pick vs (mks Z)) (okWs_shape hsh.symm (okWs_pick hv (okMs_mks ho))) (SSrt.pick vs hs) (by rw [pick_length, mks_length]; omega)
 rw [app_back hv ho] at hp
 subst hp
 refine (snap_Back.calls k0 A0 c0 _ A1 c1 _ _ _ w hr0 hc0 hr1 hc1 (hk k0 (Nat.le_refl _))).mono ?_
 rintro e w' ⟨v, he, hS, hb⟩
 obtain ⟨A, c, rfl, hc, hF⟩ := Rn.of_S hS
 exact ⟨A, c, he, hc, Kd.F_now hF, hb⟩
theorem note_sem {A2 : Option Addr} {c2 : Nat} {vs : List Vo} {X Y : List Wr} (hv : right vs = true) (hs : SSrt (X ++ Y)) (ho : okWs vs (X ++ Y)) (hr0 : Kd.C k120 w A0 (pick vs (mks X)).length (pick vs (mks X))) (hc0 : (pick vs (mks X)).length ≤ c0) (hr1 : Kd.C k137 w A1 (app vs X).length (app vs X)) (hc1 : (app vs X).length ≤ c1) (hr2 : Kd.C k120 w A2 Y.length Y) (hc2 : Y.length ≤ c2) :
  Calls Try.prog 26 #[.slice A0 (pick vs (mks X)).length c0, .slice A1 (app vs X).length c1, .slice A2 Y.length c2, .int .i64 128] w fun e w' => ∃ (A : Option Addr) (c : Nat), e = .returned (.tuple #[.slice A (pick vs (mks (X ++ Y))).length c, .int .i64 0]) ∧ (pick vs (mks (X ++ Y))).length ≤ c ∧ Kd.C k120 w' A (pick vs (mks (X ++ Y))).length (pick vs (mks (X ++ Y))) ∧ Below w.heap.size w w' := by
 have h8 := SSrt.length hv hs ho
 rw [List.length_append] at h8
 have hX : okWs vs X := fun x hx => ho x (List.mem_append_left _ hx)
 have hY : okWs vs Y := fun x hx => ho x (List.mem_append_right _ hx)
 have sX : SSrt X := (List.pairwise_append.1 hs).1
 have sY : SSrt Y := (List.pairwise_append.1 hs).2.1
 have hsh : shape (app vs X) = shape vs := shape_app _ _
 have hr := right_app hX hv
 have hYn : okWs (app vs X) Y := okWs_shape hsh.symm hY
 obtain ⟨r1, p1, k1, q1⟩ := sright_run hr (X := pick vs (mks X)) (okWs_shape hsh.symm (okWs_pick hv (okMs_mks hX))) (SSrt.pick vs sX) (by rw [pick_length, mks_length]; omega)
 obtain ⟨r2, p2, k2, q2⟩ := check_run hr Y
 rw [check_ok hYn] at p2
 obtain ⟨r3, p3, k3, q3⟩ := marks_self sY z7_
 obtain ⟨r4, p4, k4, q4⟩ := pick_run hr (ms := mks Y) (by rw [mks_length]; omega) (okMs_mks hYn)
 rw [pick_now hX hs] at p4
 obtain ⟨r5, p5, k5, q5⟩ := merge_note (vs := vs) hs z7_
 subst p1
 subst p2
 subst p3
 subst p4
 subst p5
 have hnn := not_named (vs := vs) hs
 have hk : ∀ j ∈ [k1, k2, k3, k4, k5], j ≤ k1 + k2 + k3 + k4 + k5 := by intro j hj; simp only [List.mem_cons, List.mem_nil_iff, or_false] at hj; omega
 refine (sNote.calls (k1 + k2 + k3 + k4 + k5) A0 c0 _ A1 c1 _ A2 c2 Y 128 (mks Y) (pick vs (mks Y)) (pick vs (mks (X ++ Y))) 0 w hr0 hc0 hr1 hc1 hr2 hc2 (q1 _ z7_) (q2 _ z7_) (q3 _ z7_) ?_ z8_ ?_ (q5 _ z7_)).mono ?_
 ·rw [hnn, pick_length, mks_length, mks_length]; omega
 ·rw [hnn]; exact q4 _ z7_
 ·rintro e w' ⟨v, he, ⟨A, c, rfl, hc, hC⟩, hb⟩
  exact ⟨A, c, he, hc, hC, hb⟩
end
end Go.Proofs.Ytecfndblgefhdaa.Law
