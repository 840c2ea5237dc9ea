import Derived.Test.YtgfmdfgibkkfaaaKxPx0
import Derived.Test.YtgfmdfgibkkfaaaKxPx3
import Derived.Test.YtgfmdfgibkkfaaaKxPx6
import Derived.Test.YtgfmdfgibkkfaaaKxEndsO
set_option linter.unusedVariables false
set_option linter.unusedSimpArgs false
namespace Go.Proofs.Ytgfmdfgibkkfaaa.P
open Go.RowKit Go.Proofs.YtgfmdfgibkkfaaaW.PrintWords Go.Proofs.YtgfmdfgibkkfaaaW.PrintLast Go.Proofs.YtgfmdfgibkkfaaaW.PrintMore
attribute [local go_sem] max2_int min2_int max_two min_two max_three min_three max_four min_four
def once (k : Nat) : List S55 → Nat → LS → Option Bool
  | [], _, _ => counterfoillaw15_awake.f k
  | a :: r, n, L => if n = 0 then counterfoillaw15_awake.f k else if 600 < a.f2.size then counterfoillaw15_awake.f k else
      (L.act k a).bind fun L1 => (counterfoillaw15_begins.f k L1.c0 L1.p1).bind fun b1 => if b1 = true then ((counterfoillaw15_begins.f k L1.c1 L1.p0).bind fun b2 => if b2 = true then once k r (n - 1) L1 else some false) else some false
def counterfoillaw15_LinkOnce.f (k : Nat) (l0 : List S55) : Option Bool := once k l0 120 LS.init
def counterfoillaw15_LinkOnce.Pure : Prop := ∀ (l0 : List (S55)), (l0.length * 32 ≤ 140737488351232 ∧ l0.length ≤ 9223372036854775807 ∧ ∀ y0 ∈ l0, ((Lit.int .i64 y0.f0).wf = true ∧ (Lit.int .i64 y0.f1).wf = true ∧ y0.f2.size ≤ 140737488351232)) → ∃ k, counterfoillaw15_LinkOnce.f k l0 = some true
theorem rd55 (m : List S55) (i : Nat) (h : i < m.length) : rd_T55 m (i : Int) = m[i] := by
  unfold rd_T55
  rw [Int.toNat_natCast, List.getD_eq_getElem?_getD, List.getElem?_eq_getElem h]
  rfl
set_option maxHeartbeats 4000000 in
set_option maxRecDepth 100000 in
theorem counterfoillaw15_LinkOnce.calls (k : Nat) (A0 : Option Addr) (c0 : Nat) (l0 : List S55) (r : Bool) (w : World) (hr0 : Kd.C k55 w A0 l0.length l0) (hc0 : l0.length ≤ c0) (hr_ : r = true) (h : counterfoillaw15_LinkOnce.f k l0 = some r) :
    Calls Try.prog 6 #[.slice A0 l0.length c0] w fun e w' => e = .returned (.bool r) ∧ Below w.heap.size w w' := by
  subst hr_
  have HR0 := Aside0.mk hr0
  have hmax : l0.length ≤ 9223372036854775807 := hr0.2.1
  have H0 : Aside0 (once k (l0.drop 0) (120 - 0) LS.init = some true) := ⟨h⟩
  clear hr0 hc0 h
  obtain ⟨b, hbs⟩ : ∃ b, b = w.heap.size := ⟨_, rfl⟩
  have HBS := Aside0.mk hbs
  clear hbs
  go_enter Try.func6, Try.ntmps6
  go_wp2_with fail
  (with_reducible refine (ends_line.calls _).mono ?_)
  rintro e w1 ⟨g, rfl, he, hb⟩
  rw [← HBS.out] at he
  have HE0 := Aside0.mk he
  have HW0 := Aside0.mk hb
  have HS0 : Aside0 (b ≤ w1.heap.size) := ⟨by rw [HBS.out]; exact hb.size⟩
  clear he hb
  go_wp2
  go_loopw [5] (fun i wr => ∃ j : Nat, j ≤ l0.length ∧ j ≤ 120 ∧ i = .int .i64 j ∧ Aside0 (∃ L, Ends b wr g L ∧ once k (l0.drop j) (120 - j) L = some true) ∧ Aside0 (Below w.heap.size w wr) ∧ Aside0 (b ≤ wr.heap.size)) (fun i _ => 120 - (intOf i).toNat)
  case atStart => exact ⟨0, Nat.zero_le _, by omega, rfl, ⟨⟨_, HE0.out, H0.out⟩⟩, HW0, HS0⟩
  case round =>
    clear HE0 HW0 HS0 H0
    obtain ⟨j, hj, hj120, rfl, HL, HW, HS⟩ := hrel
    have fin : (counterfoillaw15_awake.f k = some true) → Aside0 (counterfoillaw15_awake.f k = some true) := fun h => ⟨h⟩
    by_cases hj2 : j < l0.length
    · have c1 : decide ((j : Int) < (l0.length : Int)) = true := decide_eq_true (by omega)
      obtain ⟨L, hE, hO⟩ := HL.out
      rw [List.drop_eq_getElem_cons hj2, once] at hO
      by_cases hj3 : j < 120
      · have c2 : decide ((j : Int) < 120) = true := decide_eq_true (by omega)
        rw [if_neg (by omega)] at hO
        have d1 : (0 : Int) ≤ (j : Int) := by omega
        have d2 : (j : Int) < (l0.length : Int) := by omega
        obtain ⟨ad, hA, z0, z1, z2⟩ := at_T55 HR0.out (j : Int) d1 d2
        subst hA
        rw [Int.toNat_natCast] at z0 z1 z2
        replace z0 := (HW.out.cell (World.block_lt_of_cell? w _ z0)).trans z0
        replace z1 := (HW.out.cell (World.block_lt_of_cell? w _ z1)).trans z1
        replace z2 := (HW.out.cell (World.block_lt_of_cell? w _ z2)).trans z2
        rw [rd55 l0 j hj2] at z0 z1 z2
        have HE := Aside0.mk hE
        clear hE HL
        generalize l0[j] = a at z0 z1 z2 hO
        by_cases hp : 600 < a.f2.size
        · rw [if_pos hp] at hO
          have HA := fin hO
          have c3 : decide (600 < (a.f2.size : Int)) = true := decide_eq_true (by omega)
          have c4 : decide (600 < a.f2.size) = true := decide_eq_true hp
          clear hO fin
          go_wp2_with fail
          (with_reducible refine (counterfoillaw15_awake.calls k true _ HA.out).mono ?_)
          rintro e wz ⟨rfl, hb⟩
          have HF := Aside0.mk (below_step HW.out hb)
          clear hb
          go_wp2
          go_ret
          exact ⟨rfl, HF.out⟩
        · rw [if_neg hp] at hO
          have c3 : decide (600 < (a.f2.size : Int)) = false := decide_eq_false (by omega)
          have c4 : decide (600 < a.f2.size) = false := decide_eq_false hp
          clear fin hp
          obtain ⟨L1, hL1, hO⟩ := Option.bind_eq_some_iff.1 hO
          obtain ⟨b1, hb1, hO⟩ := Option.bind_eq_some_iff.1 hO
          have hb1t : b1 = true := by cases b1 with
            | false => rw [if_neg (by decide)] at hO; cases hO
            | true => rfl
          subst hb1t
          rw [if_pos rfl] at hO
          obtain ⟨b2, hb2, hO⟩ := Option.bind_eq_some_iff.1 hO
          have hb2t : b2 = true := by cases b2 with
            | false => rw [if_neg (by decide)] at hO; cases hO
            | true => rfl
          subst hb2t
          rw [if_pos rfl] at hO
          have HL1 := Aside0.mk hL1
          have HB1 := Aside0.mk hb1
          have HB2 := Aside0.mk hb2
          have HO := Aside0.mk hO
          clear hL1 hb1 hb2 hO
          go_wp2_with fail
          (with_reducible refine (ends_act.calls k b g L L1 a _ HE.out HS.out HL1.out).mono ?_)
          rintro e w3 ⟨rfl, he, hb⟩
          have hb' : Below w.heap.size wr w3 := by rw [← HBS.out]; exact hb
          have HW3 := Aside0.mk (HW.out.trans hb')
          have HS3 := Aside0.mk (Nat.le_trans HS.out hb.size)
          obtain ⟨f, v0, v1, vn, q0, q1, r0, r1, hev⟩ := he
          obtain ⟨Ac0, cc0, hvc0, qc0, _⟩ := Kd.R_reads hev.hc0
          obtain ⟨Ac1, cc1, hvc1, qc1, _⟩ := Kd.R_reads hev.hc1
          obtain ⟨Ap0, cp0, hvp0, qp0, _⟩ := Kd.R_reads hev.hp0
          obtain ⟨Ap1, cp1, hvp1, qp1, _⟩ := Kd.R_reads hev.hp1
          subst hvc0 hvc1 hvp0 hvp1
          have HQ := Aside0.mk (And.intro qc0 (And.intro qp1 (And.intro qc1 qp0)))
          have HE3 := Aside0.mk hev
          clear hb hb' hev qc0 qc1 qp0 qp1 z0 z1 z2
          go_upto_region 10 with (fail)
          replace HE3 := Aside0.mk HE3.out.drew
          replace HW3 := Aside0.mk HW3.out.drew
          replace HS3 : Aside0 (b ≤ (World.drew w3).heap.size) := HS3
          refine start_ (n := 26) (S := fun w' => w'.cell? ⟨g, 13, none⟩ = some (.slice Ac0 L1.c0.length cc0) ∧ w'.cell? ⟨g, 12, none⟩ = some (.slice Ap1 L1.p1.length cp1) ∧ w'.cell? ⟨g, 14, none⟩ = some (.slice Ac1 L1.c1.length cc1) ∧ w'.cell? ⟨g, 11, none⟩ = some (.slice Ap0 L1.p0.length cp0)) (ds := []) #[false, false, false, false, false, false, false, false, false, false, false, false, false, false, false, false, false, false, false, false, false, false, false, false, false, false] (by kernel_rfl) rfl rfl ⟨((HE3.out.cell 13).trans rfl), ((HE3.out.cell 12).trans rfl), ((HE3.out.cell 14).trans rfl), ((HE3.out.cell 11).trans rfl)⟩ (fun hHeld => ?_)
          generalize World.drew w3 = V at HE3 HW3 hHeld ⊢
          refine pure_ (i := 0) (N := some 36) (v := ?_) (a' := ?_) #[true, false, false, false, false, false, false, false, false, false, false, false, false, false, false, false, false, false, false, false, false, false, false, false, false, false] rfl rfl (by kernel_rfl) (fun _ _ _ h => h) (Or.inl ⟨by rfl, ?_⟩) ?_ ?_
          rotate_left
          · intro w'
            go_simp
            with_reducible rfl
          rotate_left
          · exact put_
          refine pure_ (i := 1) (N := some 37) (v := ?_) (a' := ?_) #[true, true, false, false, false, false, false, false, false, false, false, false, false, false, false, false, false, false, false, false, false, false, false, false, false, false] rfl rfl (by kernel_rfl) (fun _ _ _ h => h) (Or.inl ⟨by rfl, ?_⟩) ?_ ?_
          rotate_left
          · intro w'
            go_simp
            with_reducible rfl
          rotate_left
          · exact put_
          refine pure_ (i := 2) (N := some 38) (v := ?_) (a' := ?_) #[true, true, true, false, false, false, false, false, false, false, false, false, false, false, false, false, false, false, false, false, false, false, false, false, false, false] rfl rfl (by kernel_rfl) (fun _ _ _ h => h) (Or.inl ⟨by rfl, ?_⟩) ?_ ?_
          rotate_left
          · intro w'
            go_simp
            with_reducible rfl
          rotate_left
          · exact put_
          refine pure_ (i := 3) (N := some 39) (v := ?_) (a' := ?_) #[true, true, true, true, false, false, false, false, false, false, false, false, false, false, false, false, false, false, false, false, false, false, false, false, false, false] rfl rfl (by kernel_rfl) (fun _ _ _ h => h) (Or.inl ⟨by rfl, ?_⟩) ?_ ?_
          rotate_left
          · intro w'
            go_simp
            with_reducible rfl
          rotate_left
          · exact put_
          refine pure_ (i := 5) (N := some 41) (v := ?_) (a' := ?_) #[true, true, true, true, false, true, false, false, false, false, false, false, false, false, false, false, false, false, false, false, false, false, false, false, false, false] rfl rfl (by kernel_rfl) (fun _ _ _ h => h) (Or.inl ⟨by rfl, ?_⟩) ?_ ?_
          rotate_left
          · intro w'
            go_simp
            with_reducible rfl
          rotate_left
          · exact put_
          refine pure_ (i := 6) (N := some 42) (v := ?_) (a' := ?_) #[true, true, true, true, false, true, true, false, false, false, false, false, false, false, false, false, false, false, false, false, false, false, false, false, false, false] rfl rfl (by kernel_rfl) (fun _ _ _ h => h) (Or.inl ⟨by rfl, ?_⟩) ?_ ?_
          rotate_left
          · intro w'
            go_simp
            with_reducible rfl
          rotate_left
          · exact put_
          refine pure_ (i := 7) (N := some 43) (v := ?_) (a' := ?_) #[true, true, true, true, false, true, true, true, false, false, false, false, false, false, false, false, false, false, false, false, false, false, false, false, false, false] rfl rfl (by kernel_rfl) (fun _ _ _ h => h) (Or.inl ⟨by rfl, ?_⟩) ?_ ?_
          rotate_left
          · intro w'
            go_simp
            with_reducible rfl
          rotate_left
          · exact put_
          refine pure_ (i := 8) (N := some 44) (v := ?_) (a' := ?_) #[true, true, true, true, false, true, true, true, true, false, false, false, false, false, false, false, false, false, false, false, false, false, false, false, false, false] rfl rfl (by kernel_rfl) (fun _ _ _ h => h) (Or.inl ⟨by rfl, ?_⟩) ?_ ?_
          rotate_left
          · intro w'
            go_simp
            with_reducible rfl
          rotate_left
          · exact put_
          refine take_ (i := 4) (N := some 40) (v := ?_) (a' := ?_) #[true, true, true, true, true, true, true, true, true, false, false, false, false, false, false, false, false, false, false, false, false, false, false, false, false, false] rfl rfl (by kernel_rfl) (fun _ _ _ h => h) (Or.inl ⟨by rfl, ?_⟩) hHeld ?_ ?_
          rotate_left
          · rintro w' ⟨s0, s1, s2, s3⟩
            go_simp
            with_reducible rfl
          rotate_left
          · exact put_
          refine take_ (i := 9) (N := some 45) (v := ?_) (a' := ?_) #[true, true, true, true, true, true, true, true, true, true, false, false, false, false, false, false, false, false, false, false, false, false, false, false, false, false] rfl rfl (by kernel_rfl) (fun _ _ _ h => h) (Or.inl ⟨by rfl, ?_⟩) hHeld ?_ ?_
          rotate_left
          · rintro w' ⟨s0, s1, s2, s3⟩
            go_simp
            with_reducible rfl
          rotate_left
          · exact put_
          refine one_ (i := 10) (N := some 46) #[true, true, true, true, true, true, true, true, true, true, true, false, false, false, false, false, false, false, false, false, false, false, false, false, false, false] rfl rfl (by kernel_rfl) (by decide) (fun K hK => ?_)
          refine goes_ Try.func26 (by kernel_rfl) rfl #[.slice Ac0 L1.c0.length cc0, .slice Ap1 L1.p1.length cp1] (by rfl) rfl rfl (by simp only [List.map_toArray, List.map_cons, List.map_nil]; rfl) ?_
          with_reducible refine (counterfoillaw15_begins.calls k Ac0 cc0 L1.c0 Ap1 cp1 L1.p1 _ (Kd.R_reads' HE3.out.hc0).2.2 HQ.out.1 (Kd.R_reads' HE3.out.hp1).2.2 HQ.out.2.1 HB1.out).mono ?_
          rintro e wt ⟨rfl, hbt⟩
          refine ⟨_, rfl, ?_⟩
          have HE4 := Aside0.mk (HE3.out.below hbt)
          have HE4B := Aside0.mk hbt
          clear hbt
          refine hK.out _ _ ⟨((HE4.out.cell 13).trans rfl), ((HE4.out.cell 12).trans rfl), ((HE4.out.cell 14).trans rfl), ((HE4.out.cell 11).trans rfl)⟩ (fun hHeld => ?_)
          clear hK K
          refine norm_ (a' := ?_) ?_ ?_
          rotate_left
          · show Act.put _ (some 46) _ = _
            exact put_
          refine pure_ (i := 11) (N := some 47) (v := ?_) (a' := ?_) #[true, true, true, true, true, true, true, true, true, true, true, true, false, false, false, false, false, false, false, false, false, false, false, false, false, false] rfl rfl (by kernel_rfl) (fun _ _ _ h => h) (Or.inl ⟨by rfl, ?_⟩) ?_ ?_
          rotate_left
          · intro w'
            go_simp
            with_reducible rfl
          rotate_left
          · exact put_
          refine pure_ (i := 12) (N := some 48) (v := ?_) (a' := ?_) #[true, true, true, true, true, true, true, true, true, true, true, true, true, false, false, false, false, false, false, false, false, false, false, false, false, false] rfl rfl (by kernel_rfl) (fun _ _ _ h => h) (Or.inl ⟨by rfl, ?_⟩) ?_ ?_
          rotate_left
          · intro w'
            go_simp
            with_reducible rfl
          rotate_left
          · exact put_
          refine pure_ (i := 13) (N := some 49) (v := ?_) (a' := ?_) #[true, true, true, true, true, true, true, true, true, true, true, true, true, true, false, false, false, false, false, false, false, false, false, false, false, false] rfl rfl (by kernel_rfl) (fun _ _ _ h => h) (Or.inl ⟨by rfl, ?_⟩) ?_ ?_
          rotate_left
          · intro w'
            go_simp
            with_reducible rfl
          rotate_left
          · exact put_
          refine pure_ (i := 14) (N := some 50) (v := ?_) (a' := ?_) #[true, true, true, true, true, true, true, true, true, true, true, true, true, true, true, false, false, false, false, false, false, false, false, false, false, false] rfl rfl (by kernel_rfl) (fun _ _ _ h => h) (Or.inl ⟨by rfl, ?_⟩) ?_ ?_
          rotate_left
          · intro w'
            go_simp
            with_reducible rfl
          rotate_left
          · exact put_
          refine pure_ (i := 15) (N := some 51) (v := ?_) (a' := ?_) #[true, true, true, true, true, true, true, true, true, true, true, true, true, true, true, true, false, false, false, false, false, false, false, false, false, false] rfl rfl (by kernel_rfl) (fun _ _ _ h => h) (Or.inl ⟨by rfl, ?_⟩) ?_ ?_
          rotate_left
          · intro w'
            go_simp
            with_reducible rfl
          rotate_left
          · exact put_
          refine pure_ (i := 16) (N := some 52) (v := ?_) (a' := ?_) #[true, true, true, true, true, true, true, true, true, true, true, true, true, true, true, true, true, false, false, false, false, false, false, false, false, false] rfl rfl (by kernel_rfl) (fun _ _ _ h => h) (Or.inl ⟨by rfl, ?_⟩) ?_ ?_
          rotate_left
          · intro w'
            go_simp
            with_reducible rfl
          rotate_left
          · exact put_
          refine pure_ (i := 18) (N := some 54) (v := ?_) (a' := ?_) #[true, true, true, true, true, true, true, true, true, true, true, true, true, true, true, true, true, false, true, false, false, false, false, false, false, false] rfl rfl (by kernel_rfl) (fun _ _ _ h => h) (Or.inl ⟨by rfl, ?_⟩) ?_ ?_
          rotate_left
          · intro w'
            go_simp
            with_reducible rfl
          rotate_left
          · exact put_
          refine pure_ (i := 19) (N := some 55) (v := ?_) (a' := ?_) #[true, true, true, true, true, true, true, true, true, true, true, true, true, true, true, true, true, false, true, true, false, false, false, false, false, false] rfl rfl (by kernel_rfl) (fun _ _ _ h => h) (Or.inl ⟨by rfl, ?_⟩) ?_ ?_
          rotate_left
          · intro w'
            go_simp
            with_reducible rfl
          rotate_left
          · exact put_
          refine pure_ (i := 20) (N := some 56) (v := ?_) (a' := ?_) #[true, true, true, true, true, true, true, true, true, true, true, true, true, true, true, true, true, false, true, true, true, false, false, false, false, false] rfl rfl (by kernel_rfl) (fun _ _ _ h => h) (Or.inl ⟨by rfl, ?_⟩) ?_ ?_
          rotate_left
          · intro w'
            go_simp
            with_reducible rfl
          rotate_left
          · exact put_
          refine pure_ (i := 21) (N := some 57) (v := ?_) (a' := ?_) #[true, true, true, true, true, true, true, true, true, true, true, true, true, true, true, true, true, false, true, true, true, true, false, false, false, false] rfl rfl (by kernel_rfl) (fun _ _ _ h => h) (Or.inl ⟨by rfl, ?_⟩) ?_ ?_
          rotate_left
          · intro w'
            go_simp
            with_reducible rfl
          rotate_left
          · exact put_
          refine take_ (i := 17) (N := some 53) (v := ?_) (a' := ?_) #[true, true, true, true, true, true, true, true, true, true, true, true, true, true, true, true, true, true, true, true, true, true, false, false, false, false] rfl rfl (by kernel_rfl) (fun _ _ _ h => h) (Or.inl ⟨by rfl, ?_⟩) hHeld ?_ ?_
          rotate_left
          · rintro w' ⟨s0, s1, s2, s3⟩
            go_simp
            with_reducible rfl
          rotate_left
          · exact put_
          refine take_ (i := 22) (N := some 58) (v := ?_) (a' := ?_) #[true, true, true, true, true, true, true, true, true, true, true, true, true, true, true, true, true, true, true, true, true, true, true, false, false, false] rfl rfl (by kernel_rfl) (fun _ _ _ h => h) (Or.inl ⟨by rfl, ?_⟩) hHeld ?_ ?_
          rotate_left
          · rintro w' ⟨s0, s1, s2, s3⟩
            go_simp
            with_reducible rfl
          rotate_left
          · exact put_
          refine one_ (i := 23) (N := some 59) #[true, true, true, true, true, true, true, true, true, true, true, true, true, true, true, true, true, true, true, true, true, true, true, true, false, false] rfl rfl (by kernel_rfl) (by decide) (fun K hK => ?_)
          refine goes_ Try.func26 (by kernel_rfl) rfl #[.slice Ac1 L1.c1.length cc1, .slice Ap0 L1.p0.length cp0] (by rfl) rfl rfl (by simp only [List.map_toArray, List.map_cons, List.map_nil]; rfl) ?_
          with_reducible refine (counterfoillaw15_begins.calls k Ac1 cc1 L1.c1 Ap0 cp0 L1.p0 _ (Kd.R_reads' HE4.out.hc1).2.2 HQ.out.2.2.1 (Kd.R_reads' HE4.out.hp0).2.2 HQ.out.2.2.2 HB2.out).mono ?_
          rintro e wu ⟨rfl, hbt⟩
          refine ⟨_, rfl, ?_⟩
          have HE5 := Aside0.mk (HE4.out.below hbt)
          have HE5B := Aside0.mk hbt
          clear hbt
          refine hK.out _ _ ⟨((HE5.out.cell 13).trans rfl), ((HE5.out.cell 12).trans rfl), ((HE5.out.cell 14).trans rfl), ((HE5.out.cell 11).trans rfl)⟩ (fun hHeld => ?_)
          clear hK K
          refine norm_ (a' := ?_) ?_ ?_
          rotate_left
          · show Act.put _ (some 59) _ = _
            exact put_
          refine pure_ (i := 24) (N := some 60) (v := ?_) (a' := ?_) #[true, true, true, true, true, true, true, true, true, true, true, true, true, true, true, true, true, true, true, true, true, true, true, true, true, false] rfl rfl (by kernel_rfl) (fun _ _ _ h => h) (Or.inl ⟨by rfl, ?_⟩) ?_ ?_
          rotate_left
          · intro w'
            go_simp
            with_reducible rfl
          rotate_left
          · exact put_
          refine pure_ (i := 25) (N := some 61) (v := ?_) (a' := ?_) #[true, true, true, true, true, true, true, true, true, true, true, true, true, true, true, true, true, true, true, true, true, true, true, true, true, true] rfl rfl (by kernel_rfl) (fun _ _ _ h => h) (Or.inl ⟨by rfl, ?_⟩) ?_ ?_
          rotate_left
          · intro w'
            go_simp
            with_reducible rfl
          rotate_left
          · exact put_
          refine done_ (by kernel_rfl) ?_
          have HW5 := Aside0.mk (below_step (below_step HW3.out HE4B.out) HE5B.out)
          have HS5 : Aside0 (b ≤ wu.heap.size) := ⟨by rw [HBS.out]; exact HW5.out.size⟩
          have HI5 : Aside0 (∃ L, Ends b wu g L ∧ once k (l0.drop (j + 1)) (120 - (j + 1)) L = some true) := ⟨⟨L1, ⟨f, _, _, _, _, _, _, _, HE5.out⟩, by rw [show 120 - (j + 1) = 120 - j - 1 by omega]; exact HO.out⟩⟩
          go_wp2
          go_roundw
          case rel => exact ⟨j + 1, by omega, by omega, by go_num, HI5, HW5, HS5⟩
          case measure => simp [intOf]; omega
      · have c2 : decide ((j : Int) < 120) = false := decide_eq_false (by omega)
        rw [if_pos (by omega)] at hO
        have HA := fin hO
        clear hO fin hE HL
        go_wp2_with fail
        (with_reducible refine (counterfoillaw15_awake.calls k true _ HA.out).mono ?_)
        rintro e wz ⟨rfl, hb⟩
        have HF := Aside0.mk (below_step HW.out hb)
        clear hb
        go_wp2
        go_ret
        exact ⟨rfl, HF.out⟩
    · have c1 : decide ((j : Int) < (l0.length : Int)) = false := decide_eq_false (by omega)
      obtain ⟨L, hE, hO⟩ := HL.out
      rw [List.drop_eq_nil_of_le (by omega), once] at hO
      have HA := fin hO
      clear hO fin hE HL
      go_wp2_with fail
      (with_reducible refine (counterfoillaw15_awake.calls k true _ HA.out).mono ?_)
      rintro e wz ⟨rfl, hb⟩
      have HF := Aside0.mk (below_step HW.out hb)
      clear hb
      go_wp2
      go_ret
      exact ⟨rfl, HF.out⟩
end Go.Proofs.Ytgfmdfgibkkfaaa.P
