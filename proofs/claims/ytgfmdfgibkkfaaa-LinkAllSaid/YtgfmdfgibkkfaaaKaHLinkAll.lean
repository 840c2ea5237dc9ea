import Derived.Test.YtgfmdfgibkkfaaaKaPx0
import Derived.Test.YtgfmdfgibkkfaaaKaPx2
import Derived.Test.YtgfmdfgibkkfaaaKaPx3
import Derived.Test.YtgfmdfgibkkfaaaKaPx5
import Derived.Test.YtgfmdfgibkkfaaaKaPx6
import Derived.Test.YtgfmdfgibkkfaaaKaEndsO
import Derived.Deep.LoopGhost
import Derived.Deep.CutBlock
import Derived.Deep.DeepCutAuto
set_option linter.unusedVariables false
set_option linter.unusedSimpArgs false
namespace Go.Proofs.Ytgfmdfgibkkfaaa.P
open Go.RowKit Go.Proofs.YtgfmdfgibkkfaaaW.PrintWords Go.Proofs.YtgfmdfgibkkfaaaW.PrintLast Go.Proofs.YtgfmdfgibkkfaaaW.PrintMore
attribute [local go_sem] max2_int min2_int max_two min_two max_three min_three max_four min_four
def LS.one (k : Nat) (L : LS) : Option LS :=
  if 1000 < L.net.length then none
  else if (rd_T65 L.net 0).f0 = 0 then (link_Take.f k L.x0.f0 L.x0.f1 L.x0.f2 L.x0.f3 L.x0.f4 (rd_T65 L.net 0).f1).bind fun T => if L.c0.length ≤ 1000 then some ((L.gone 0).comes0 T) else none
  else if (rd_T65 L.net 0).f0 = 1 then (link_Take.f k L.x1.f0 L.x1.f1 L.x1.f2 L.x1.f3 L.x1.f4 (rd_T65 L.net 0).f1).bind fun T => if L.c1.length ≤ 1000 then some ((L.gone 0).comes1 T) else none
  else none
def flow (k : Nat) : Nat → LS → Option LS
  | 0, _ => none
  | n + 1, L => if L.net = [] then some L else (L.one k).bind (flow k n)
def LS.tks (k : Nat) : Nat → LS → Option LS
  | 0, L => flow k 100 L
  | 1, L => (link_Tick.f k L.x1.f0 L.x1.f1 L.x1.f2 L.x1.f3 L.x1.f4).bind fun ss => LS.tks k 0 (L.sendAll 0 ss)
  | _ + 2, L => (link_Tick.f k L.x0.f0 L.x0.f1 L.x0.f2 L.x0.f3 L.x0.f4).bind fun ss => LS.tks k 1 (L.sendAll 1 ss)
def rounds (k : Nat) : Nat → LS → Option LS
  | 0, L => some L
  | n + 1, L => (LS.tks k 2 { L with net := [] }).bind (rounds k n)
def LS.fin (k : Nat) (L : LS) : Option Bool :=
  (counterfoilref01_Same.f k L.c0 L.p1).bind fun b1 => (counterfoilref01_Same.f k L.c1 L.p0).bind fun b2 => if b1 = true ∧ b2 = true ∧ L.x0.f3 = [] ∧ L.x1.f3 = [] then counterfoillaw15_awake.f k else some false
def allGo (k : Nat) : List S55 → Nat → LS → Option Bool
  | [], _, L => (rounds k 64 L).bind (LS.fin k)
  | a :: r, n, L => if n = 0 then (rounds k 64 L).bind (LS.fin k) else if 600 < a.f2.size then counterfoillaw15_awake.f k else (L.act k a).bind fun L1 => allGo k r (n - 1) L1
def counterfoillaw15_LinkAll.f (k : Nat) (l0 : List S55) : Option Bool := allGo k l0 100 LS.init
def counterfoillaw15_LinkAll.Pure : Prop := ∀ (l0 : List (S55)), (l0.length * 32 ≤ 140737488351232 ∧ l0.length ≤ 9223372036854775807 ∧ ∀ y0 ∈ l0, ((Lit.int .i64 y0.f0).wf = true ∧ (Lit.int .i64 y0.f1).wf = true ∧ y0.f2.size ≤ 140737488351232)) → ∃ k, counterfoillaw15_LinkAll.f k l0 = some true
theorem tks_0 {k : Nat} {L : LS} {F : LS → Option LS} {Lf : LS} (h : (LS.tks k (2 - 0) L).bind F = some Lf) : ∃ ss, link_Tick.f k L.x0.f0 L.x0.f1 L.x0.f2 L.x0.f3 L.x0.f4 = some ss ∧ (LS.tks k (2 - 1) (L.sendAll 1 ss)).bind F = some Lf := by
  obtain ⟨L1, h1, h2⟩ := Option.bind_eq_some_iff.1 h
  rw [show 2 - 0 = 0 + 2 from rfl, LS.tks] at h1
  obtain ⟨ss, h3, h4⟩ := Option.bind_eq_some_iff.1 h1
  exact ⟨ss, h3, Option.bind_eq_some_iff.2 ⟨L1, h4, h2⟩⟩
theorem tks_1 {k : Nat} {L : LS} {F : LS → Option LS} {Lf : LS} (h : (LS.tks k (2 - 1) L).bind F = some Lf) : ∃ ss, link_Tick.f k L.x1.f0 L.x1.f1 L.x1.f2 L.x1.f3 L.x1.f4 = some ss ∧ (LS.tks k (2 - 2) (L.sendAll 0 ss)).bind F = some Lf := by
  obtain ⟨L1, h1, h2⟩ := Option.bind_eq_some_iff.1 h
  rw [show 2 - 1 = 1 from rfl, LS.tks] at h1
  obtain ⟨ss, h3, h4⟩ := Option.bind_eq_some_iff.1 h1
  exact ⟨ss, h3, Option.bind_eq_some_iff.2 ⟨L1, h4, h2⟩⟩
theorem flow_one {k n : Nat} {L : LS} {F : LS → Option LS} {Lf : LS} (h : (flow k n L).bind F = some Lf) (hn : L.net ≠ []) : ∃ m, n = m + 1 ∧ L.net.length ≤ 1000 ∧
    (((rd_T65 L.net 0).f0 = 0 ∧ ∃ T, link_Take.f k L.x0.f0 L.x0.f1 L.x0.f2 L.x0.f3 L.x0.f4 (rd_T65 L.net 0).f1 = some T ∧ L.c0.length ≤ 1000 ∧ (flow k m ((L.gone 0).comes0 T)).bind F = some Lf) ∨
     ((rd_T65 L.net 0).f0 = 1 ∧ ∃ T, link_Take.f k L.x1.f0 L.x1.f1 L.x1.f2 L.x1.f3 L.x1.f4 (rd_T65 L.net 0).f1 = some T ∧ L.c1.length ≤ 1000 ∧ (flow k m ((L.gone 0).comes1 T)).bind F = some Lf)) := by
  obtain ⟨L1, h1, h2⟩ := Option.bind_eq_some_iff.1 h
  cases n with
  | zero => rw [flow] at h1; cases h1
  | succ m =>
    refine ⟨m, rfl, ?_⟩
    rw [flow, if_neg hn] at h1
    obtain ⟨L2, h3, h4⟩ := Option.bind_eq_some_iff.1 h1
    unfold LS.one at h3
    by_cases c0 : 1000 < L.net.length
    · rw [if_pos c0] at h3; cases h3
    rw [if_neg c0] at h3
    refine ⟨by omega, ?_⟩
    by_cases c1 : (rd_T65 L.net 0).f0 = 0
    · rw [if_pos c1] at h3
      obtain ⟨T, h5, h6⟩ := Option.bind_eq_some_iff.1 h3
      by_cases c2 : L.c0.length ≤ 1000
      · rw [if_pos c2] at h6
        obtain rfl := Option.some.inj h6
        exact .inl ⟨c1, T, h5, c2, Option.bind_eq_some_iff.2 ⟨L1, h4, h2⟩⟩
      · rw [if_neg c2] at h6; cases h6
    rw [if_neg c1] at h3
    by_cases c3 : (rd_T65 L.net 0).f0 = 1
    · rw [if_pos c3] at h3
      obtain ⟨T, h5, h6⟩ := Option.bind_eq_some_iff.1 h3
      by_cases c2 : L.c1.length ≤ 1000
      · rw [if_pos c2] at h6
        obtain rfl := Option.some.inj h6
        exact .inr ⟨c3, T, h5, c2, Option.bind_eq_some_iff.2 ⟨L1, h4, h2⟩⟩
      · rw [if_neg c2] at h6; cases h6
    rw [if_neg c3] at h3; cases h3
theorem ends_gone0.calls0 (b g : Nat) (L : LS) (w : World) (h : Ends b w g L) (hb : b ≤ w.heap.size) (hi : 0 < L.net.length) (hln : L.net.length ≤ 1000) (ht : (rd_T65 L.net 0).f0 = 0) :
    Calls Try.prog 29 #[.pointer (some ⟨g, 0, none⟩), .int .i64 0] w fun e w' => e = .returned (.agg #[.int .i64 0, .string (rd_T65 L.net 0).f1, .bool (rd_T65 L.net 0).f2]) ∧ Ends b w' g (L.gone 0) ∧ Below b w w' := by
  have := ends_gone.calls b g 0 L w h hb hi hln
  rw [Int.ofNat_zero, ht] at this
  exact this
theorem ends_gone0.calls1 (b g : Nat) (L : LS) (w : World) (h : Ends b w g L) (hb : b ≤ w.heap.size) (hi : 0 < L.net.length) (hln : L.net.length ≤ 1000) (ht : (rd_T65 L.net 0).f0 = 1) :
    Calls Try.prog 29 #[.pointer (some ⟨g, 0, none⟩), .int .i64 0] w fun e w' => e = .returned (.agg #[.int .i64 1, .string (rd_T65 L.net 0).f1, .bool (rd_T65 L.net 0).f2]) ∧ Ends b w' g (L.gone 0) ∧ Below b w w' := by
  have := ends_gone.calls b g 0 L w h hb hi hln
  rw [Int.ofNat_zero, ht] at this
  exact this
def TickJ (b : Nat) (w W : World) (g : Nat) (L : LS) (tt : Int) (A2 : Option Addr) (c2 : Nat) (ss : List ByteArray) (j : Nat) : Prop :=
  ∃ f, EndsF b W g (L.sendAll tt (ss.take j)) f ∧ Kd.string.R 9 W b (fun k => f k = 9) (.slice A2 ss.length c2) ss ∧ Below w.heap.size w W ∧ b ≤ W.heap.size
theorem rd55 (m : List S55) (i : Nat) (h : i < m.length) : rd_T55 m (i : Int) = m[i] := by
  unfold rd_T55
  rw [Int.toNat_natCast, List.getD_eq_getElem?_getD, List.getElem?_eq_getElem h]
  rfl
set_option maxHeartbeats 8000000 in
set_option maxRecDepth 100000 in
theorem counterfoillaw15_LinkAll.calls (k : Nat) (A0 : Option Addr) (c0 : Nat) (l0 : List S55) (r : Bool) (w : World) (hr0 : Kd.C k55 w A0 l0.length l0) (hc0 : l0.length ≤ c0) (hr_ : r = true) (h : counterfoillaw15_LinkAll.f k l0 = some r) :
    Calls Try.prog 7 #[.slice A0 l0.length c0] w fun e w' => e = .returned (.bool r) ∧ Below w.heap.size w w' := by
  subst hr_
  have HR0 := Aside0.mk hr0
  have hmax : l0.length ≤ 9223372036854775807 := hr0.2.1
  have H0 : Aside0 (allGo k (l0.drop 0) (100 - 0) LS.init = some true) := ⟨h⟩
  clear hr0 hc0 h
  obtain ⟨b, hbs⟩ : ∃ b, b = w.heap.size := ⟨_, rfl⟩
  have HBS := Aside0.mk hbs
  clear hbs
  go_enter Try.func7, Try.ntmps7
  go_wp2_with fail
  (with_reducible refine (ends_line.calls _).mono ?_)
  rintro e w1 ⟨g, rfl, he, hb⟩
  rw [← HBS.out] at he
  have HE0 := Aside0.mk he
  have HW0 := Aside0.mk hb
  have HS0 : Aside0 (b ≤ w1.heap.size) := ⟨by rw [HBS.out]; exact hb.size⟩
  clear he hb
  go_upto_block 0 with (fail)
  go_cut [] (fun wc => Aside0 (∃ L, Ends b wc g L ∧ (rounds k 64 L).bind (LS.fin k) = some true) ∧ Aside0 (Below w.heap.size w wc) ∧ Aside0 (b ≤ wc.heap.size))
  case first =>
    go_wp2
    go_loopw [5] (fun i wr => ∃ j : Nat, j ≤ l0.length ∧ j ≤ 100 ∧ i = .int .i64 j ∧ Aside0 (∃ L, Ends b wr g L ∧ allGo k (l0.drop j) (100 - j) L = some true) ∧ Aside0 (Below w.heap.size w wr) ∧ Aside0 (b ≤ wr.heap.size)) (fun i _ => 100 - (intOf i).toNat)
    case atStart => exact ⟨0, Nat.zero_le _, by omega, rfl, ⟨⟨_, HE0.out, H0.out⟩⟩, HW0, HS0⟩
    case round =>
      clear HE0 HW0 HS0 H0
      obtain ⟨j, hj, hj120, rfl, HL, HW, HS⟩ := hrel
      have fin : (counterfoillaw15_awake.f k = some true) → Aside0 (counterfoillaw15_awake.f k = some true) := fun h => ⟨h⟩
      by_cases hj2 : j < l0.length
      · have c1 : decide ((j : Int) < (l0.length : Int)) = true := decide_eq_true (by omega)
        obtain ⟨L, hE, hO⟩ := HL.out
        rw [List.drop_eq_getElem_cons hj2, allGo] at hO
        by_cases hj3 : j < 100
        · have c2 : decide ((j : Int) < 100) = true := decide_eq_true (by omega)
          rw [if_neg (by omega)] at hO
          have d1 : (0 : Int) ≤ (j : Int) := by omega
          have d2 : (j : Int) < (l0.length : Int) := by omega
          obtain ⟨ad, hA, z0, z1, z2⟩ := at_T55 HR0.out (j : Int) d1 d2
          subst hA
          rw [Int.toNat_natCast] at z0 z1 z2
          replace z0 := (HW.out.cell (World.block_lt_of_cell? w _ z0)).trans z0
          replace z1 := (HW.out.cell (World.block_lt_of_cell? w _ z1)).trans z1
          replace z2 := (HW.out.cell (World.block_lt_of_cell? w _ z2)).trans z2
          rw [rd55 l0 j hj2] at z0 z1 z2
          have HE := Aside0.mk hE
          clear hE HL
          generalize l0[j] = a at z0 z1 z2 hO
          by_cases hp : 600 < a.f2.size
          · rw [if_pos hp] at hO
            have HA := fin hO
            have c3 : decide (600 < (a.f2.size : Int)) = true := decide_eq_true (by omega)
            have c4 : decide (600 < a.f2.size) = true := decide_eq_true hp
            clear hO fin
            go_wp2_with fail
            (with_reducible refine (counterfoillaw15_awake.calls k true _ HA.out).mono ?_)
            rintro e wz ⟨rfl, hb⟩
            have HF := Aside0.mk (below_step HW.out hb)
            clear hb
            go_wp2
            go_ret
            exact ⟨rfl, HF.out⟩
          · rw [if_neg hp] at hO
            have c3 : decide (600 < (a.f2.size : Int)) = false := decide_eq_false (by omega)
            have c4 : decide (600 < a.f2.size) = false := decide_eq_false hp
            clear fin hp
            obtain ⟨L1, hL1, hO⟩ := Option.bind_eq_some_iff.1 hO
            have HL1 := Aside0.mk hL1
            have HO := Aside0.mk hO
            clear hL1 hO
            go_wp2_with fail
            (with_reducible refine (ends_act.calls k b g L L1 a _ HE.out HS.out HL1.out).mono ?_)
            rintro e w3 ⟨rfl, he, hb⟩
            have hb' : Below w.heap.size wr w3 := by rw [← HBS.out]; exact hb
            have HW3 := Aside0.mk (HW.out.trans hb')
            have HS3 := Aside0.mk (Nat.le_trans HS.out hb.size)
            have HI3 : Aside0 (∃ L, Ends b w3 g L ∧ allGo k (l0.drop (j + 1)) (100 - (j + 1)) L = some true) := ⟨⟨L1, he, by rw [show 100 - (j + 1) = 100 - j - 1 by omega]; exact HO.out⟩⟩
            clear hb hb' he z0 z1 z2 HO HL1
            go_wp2
            go_roundw
            case rel => exact ⟨j + 1, by omega, by omega, by go_num, HI3, HW3, HS3⟩
            case measure => simp [intOf]; omega
        · have c2 : decide ((j : Int) < 100) = false := decide_eq_false (by omega)
          rw [if_pos (by omega)] at hO
          have HX : Aside0 (∃ L, Ends b wr g L ∧ (rounds k 64 L).bind (LS.fin k) = some true) := ⟨⟨L, hE, hO⟩⟩
          clear hO fin hE HL
          go_wp2
          go_meet
          case rel => exact ⟨HX, HW, HS⟩
      · have c1 : decide ((j : Int) < (l0.length : Int)) = false := decide_eq_false (by omega)
        obtain ⟨L, hE, hO⟩ := HL.out
        rw [List.drop_eq_nil_of_le (by omega), allGo] at hO
        have HX : Aside0 (∃ L, Ends b wr g L ∧ (rounds k 64 L).bind (LS.fin k) = some true) := ⟨⟨L, hE, hO⟩⟩
        clear hO fin hE HL
        go_wp2
        go_meet
        case rel => exact ⟨HX, HW, HS⟩
  case rest =>
    clear HE0 HW0 HS0 H0
    obtain ⟨HX, HW0, HS0⟩ := hcut
    obtain ⟨L, hE, hO⟩ := HX.out
    obtain ⟨Lf, hR, hF⟩ := Option.bind_eq_some_iff.1 hO
    have HF := Aside0.mk hF
    have HE0 : Aside0 (∃ L, Ends b wc g L ∧ rounds k (64 - 0) L = some Lf) := ⟨⟨L, hE, hR⟩⟩
    clear hF hE hO hR HX
    go_wp2
    go_loopw [6] (fun i wr => ∃ j : Nat, j ≤ 64 ∧ i = .int .i64 j ∧ Aside0 (∃ L, Ends b wr g L ∧ rounds k (64 - j) L = some Lf) ∧ Aside0 (Below w.heap.size w wr) ∧ Aside0 (b ≤ wr.heap.size)) (fun i _ => 64 - (intOf i).toNat)
    case atStart => exact ⟨0, by omega, rfl, HE0, HW0, HS0⟩
    case round =>
      clear HE0 HW0 HS0
      obtain ⟨jj, hjj, rfl, HL, HW, HS⟩ := hrel
      by_cases hj2 : jj < 64
      · have c1 : decide ((jj : Int) < 64) = true := decide_eq_true (by omega)
        obtain ⟨L, hE, hO⟩ := HL.out
        obtain ⟨m, hm⟩ : ∃ m, m = 64 - (jj + 1) := ⟨_, rfl⟩
        rw [show 64 - jj = m + 1 by omega, rounds] at hO
        have HM := Aside0.mk hm
        obtain ⟨f, v0, v1, vn, q0, q1, r0, r1, hev⟩ := hE
        have hct : wr.cell? ⟨g, 10, none⟩ = some vn := (hev.cell 10).trans rfl
        have hft : wr.frozen? ⟨g, 10, none⟩ = false := hev.frozen 10
        obtain ⟨f', _, hev2⟩ := hev.setNet2 (v := .slice none 0 0) (net := []) (Below.refl _ _) (Kd.R_nil _ _ _ _ _)
        have HI2 : Aside0 (∃ L, Ends b (wr.setCell ⟨g, 10, none⟩ (.slice none 0 0)) g L ∧ (LS.tks k (2 - 0) L).bind (rounds k m) = some Lf) := ⟨⟨_, ⟨f', _, _, _, _, _, _, _, hev2⟩, hO⟩⟩
        have HW2 : Aside0 (Below w.heap.size w (wr.setCell ⟨g, 10, none⟩ (.slice none 0 0))) := ⟨HW.out.setCell (p := ⟨g, 10, none⟩) (by rw [← HBS.out]; exact hev.low) _⟩
        have HS2 : Aside0 (b ≤ (wr.setCell ⟨g, 10, none⟩ (.slice none 0 0)).heap.size) := ⟨Nat.le_trans HS.out (Below.setCell (p := ⟨g, 10, none⟩) (Below.refl b wr) hev.low (.slice none 0 0)).size⟩
        clear hO hev hev2 HL HW HS hm
        go_upto_region 14 with (fail)
        clear hct hft
        generalize wr.setCell ⟨g, 10, none⟩ (.slice none 0 0) = wa at HI2 HW2 HS2 ⊢
        go_wp2
        go_loopw [47] (fun i wr => ∃ j : Nat, j ≤ 2 ∧ i = .int .i64 j ∧ Aside0 (∃ L, Ends b wr g L ∧ (LS.tks k (2 - j) L).bind (rounds k m) = some Lf) ∧ Aside0 (Below w.heap.size w wr) ∧ Aside0 (b ≤ wr.heap.size)) (fun i _ => 2 - (intOf i).toNat)
        case atStart => exact ⟨0, by omega, rfl, HI2, HW2, HS2⟩
        case round =>
          clear HI2 HW2 HS2
          obtain ⟨j, hj, rfl, HL, HW, HS⟩ := hrel
          have hcases : j = 0 ∨ j = 1 ∨ j = 2 := by omega
          rcases hcases with rfl | rfl | rfl
          · skip
            obtain ⟨L, hE, hO⟩ := HL.out
            replace hO := tks_0 hO
            obtain ⟨ss, ht, hO⟩ := hO
            obtain ⟨f, v0, v1, vn, q0, q1, r0, r1, hev⟩ := hE
            obtain ⟨A0, c0, hv, hc, _⟩ := Kd.Q_reads hev.h0
            subst hv
            have x0 : wr.cell? ⟨g, 0, none⟩ = some (.int .i64 L.x0.f0) := (hev.cell 0).trans rfl
            have x1 : wr.cell? ⟨g, 1, none⟩ = some (.int .i64 L.x0.f1) := (hev.cell 1).trans rfl
            have x2 : wr.cell? ⟨g, 2, none⟩ = some (.int .i64 L.x0.f2) := (hev.cell 2).trans rfl
            have x3 : wr.cell? ⟨g, 3, none⟩ = some (.slice A0 L.x0.f3.length c0) := (hev.cell 3).trans rfl
            have x4 : wr.cell? ⟨g, 4, none⟩ = some (.int .i64 L.x0.f4) := (hev.cell 4).trans rfl
            have HEV := Aside0.mk hev
            have HCAP := Aside0.mk hc
            have HT := Aside0.mk ht
            have HO := Aside0.mk hO
            clear hev hc ht hO HL
            go_wp2_with fail
            (with_reducible refine (link_Tick.calls k L.x0.f0 L.x0.f1 L.x0.f2 A0 c0 L.x0.f3 L.x0.f4 ss _ (Kd.Q_reads' HEV.out.h0).2.2 HCAP.out HT.out).mono ?_)
            rintro e wt ⟨vt, rfl, ho, hb1⟩
            obtain ⟨A2, c2, rfl⟩ := Kd.R_slice ho
            have HI0 : Aside0 (TickJ b w wt g L 1 A2 c2 ss 0) := ⟨⟨tagf f wr.heap.size 9, ⟨_, _, _, _, _, _, _, HEV.out.fresh hb1 9⟩, Kd.R_lower (Kd.R_mono (Kd.R_bound ho) (fun k hk => by unfold tagf; rw [if_pos hk.2.1])) HS.out, below_step HW.out hb1, Nat.le_trans HS.out hb1.size⟩⟩
            clear ho hb1 HEV HW HS HCAP HT x0 x1 x2 x3 x4
            have hmax : ss.length ≤ 9223372036854775807 := by obtain ⟨_, _, hr, _⟩ := HI0.out; exact (Kd.R_reads' hr).2.2.2.1
            go_wp2
            go_loopw [58] (fun i wr => ∃ j : Nat, j ≤ ss.length ∧ i = .int .i64 j ∧ Aside0 (TickJ b w wr g L 1 A2 c2 ss j)) (fun i _ => ss.length - (intOf i).toNat)
            case atStart => exact ⟨0, Nat.zero_le _, rfl, HI0⟩
            case round =>
              clear HI0
              obtain ⟨j, hj, rfl, HI⟩ := hrel
              by_cases hj2 : j < ss.length
              · obtain ⟨f3, he3, hr3, hbw3, hs3⟩ := HI.out
                have c3 : decide ((j : Int) < (ss.length : Int)) = true := decide_eq_true (by omega)
                have d5 : (0 : Int) ≤ (j : Int) := by omega
                have d6 : (j : Int) < (ss.length : Int) := by omega
                obtain ⟨ad, ead, hcell⟩ := Kd.at_string (Kd.R_reads' hr3).2.2 (j : Int) (by omega) (by omega)
                cases ead
                have hs : rdOf ByteArray.empty ss (j : Int) = ss[j] := by
                  unfold rdOf
                  rw [Int.toNat_natCast, List.getD_eq_getElem?_getD, List.getElem?_eq_getElem hj2]
                  rfl
                rw [hs] at hcell
                rw [Int.toNat_natCast] at hcell
                have z3 : wrap64 (1 - 0) = 1 := by unfold wrap64; omega
                have z4 : wrap64 1 = 1 := by unfold wrap64; omega
                have HE3 := Aside0.mk he3
                have HS3 := Aside0.mk hs3
                have HX := Aside0.mk (And.intro hr3 hbw3)
                have HJ := Aside0.mk (tickI_succ (L := L) (tt := 1) (ss := ss) hj2)
                clear he3 hs3 hr3 hbw3 hs HI
                generalize ss[j] = s at hcell HJ
                go_wp2_with fail
                (with_reducible refine (ends_send.callsF b g _ (⟨1, s, false⟩ : S65) f3 _ HE3.out HS3.out).mono ?_)
                rintro e w5 ⟨rfl, ⟨f5, he5, hk5⟩, hb5⟩
                have HI5 : Aside0 (TickJ b w w5 g L 1 (some ad) c2 ss (j + 1)) := ⟨⟨f5, by rw [HJ.out]; exact he5, Kd.R_mono (Kd.R_move (Kd.R_bound HX.out.1) (fun k hk => (hk5 k hk.2.2.1 hk.1).2)) (fun k hk => (hk5 k hk.2.2.1 hk.1).1), HX.out.2.trans (by rw [← HBS.out]; exact hb5), Nat.le_trans HS3.out hb5.size⟩⟩
                clear he5 hk5 hb5 HX HE3 HS3 HJ
                go_wp2
                go_roundw
                case rel => exact ⟨j + 1, by omega, by go_num, HI5⟩
                case measure => simp [intOf]; omega
              · obtain rfl : j = ss.length := by omega
                obtain ⟨f3, he3, _, hbw3, hs3⟩ := HI.out
                rw [List.take_length] at he3
                have HL3 : Aside0 (∃ L, Ends b wr g L ∧ (LS.tks k (2 - 1) L).bind (rounds k m) = some Lf) := ⟨⟨_, ⟨f3, he3⟩, HO.out⟩⟩
                have HW3 := Aside0.mk hbw3
                have HS3 := Aside0.mk hs3
                clear he3 hbw3 hs3 HI HO
                go_wp2
                go_roundw
                case rel => exact ⟨1, by omega, by go_num, HL3, HW3, HS3⟩
                case measure => simp [intOf]
          · skip
            obtain ⟨L, hE, hO⟩ := HL.out
            replace hO := tks_1 hO
            obtain ⟨ss, ht, hO⟩ := hO
            obtain ⟨f, v0, v1, vn, q0, q1, r0, r1, hev⟩ := hE
            obtain ⟨A0, c0, hv, hc, _⟩ := Kd.Q_reads hev.h1
            subst hv
            have x0 : wr.cell? ⟨g, 5, none⟩ = some (.int .i64 L.x1.f0) := (hev.cell 5).trans rfl
            have x1 : wr.cell? ⟨g, 6, none⟩ = some (.int .i64 L.x1.f1) := (hev.cell 6).trans rfl
            have x2 : wr.cell? ⟨g, 7, none⟩ = some (.int .i64 L.x1.f2) := (hev.cell 7).trans rfl
            have x3 : wr.cell? ⟨g, 8, none⟩ = some (.slice A0 L.x1.f3.length c0) := (hev.cell 8).trans rfl
            have x4 : wr.cell? ⟨g, 9, none⟩ = some (.int .i64 L.x1.f4) := (hev.cell 9).trans rfl
            have HEV := Aside0.mk hev
            have HCAP := Aside0.mk hc
            have HT := Aside0.mk ht
            have HO := Aside0.mk hO
            clear hev hc ht hO HL
            go_wp2_with fail
            (with_reducible refine (link_Tick.calls k L.x1.f0 L.x1.f1 L.x1.f2 A0 c0 L.x1.f3 L.x1.f4 ss _ (Kd.Q_reads' HEV.out.h1).2.2 HCAP.out HT.out).mono ?_)
            rintro e wt ⟨vt, rfl, ho, hb1⟩
            obtain ⟨A2, c2, rfl⟩ := Kd.R_slice ho
            have HI0 : Aside0 (TickJ b w wt g L 0 A2 c2 ss 0) := ⟨⟨tagf f wr.heap.size 9, ⟨_, _, _, _, _, _, _, HEV.out.fresh hb1 9⟩, Kd.R_lower (Kd.R_mono (Kd.R_bound ho) (fun k hk => by unfold tagf; rw [if_pos hk.2.1])) HS.out, below_step HW.out hb1, Nat.le_trans HS.out hb1.size⟩⟩
            clear ho hb1 HEV HW HS HCAP HT x0 x1 x2 x3 x4
            have hmax : ss.length ≤ 9223372036854775807 := by obtain ⟨_, _, hr, _⟩ := HI0.out; exact (Kd.R_reads' hr).2.2.2.1
            go_wp2
            go_loopw [58] (fun i wr => ∃ j : Nat, j ≤ ss.length ∧ i = .int .i64 j ∧ Aside0 (TickJ b w wr g L 0 A2 c2 ss j)) (fun i _ => ss.length - (intOf i).toNat)
            case atStart => exact ⟨0, Nat.zero_le _, rfl, HI0⟩
            case round =>
              clear HI0
              obtain ⟨j, hj, rfl, HI⟩ := hrel
              by_cases hj2 : j < ss.length
              · obtain ⟨f3, he3, hr3, hbw3, hs3⟩ := HI.out
                have c3 : decide ((j : Int) < (ss.length : Int)) = true := decide_eq_true (by omega)
                have d5 : (0 : Int) ≤ (j : Int) := by omega
                have d6 : (j : Int) < (ss.length : Int) := by omega
                obtain ⟨ad, ead, hcell⟩ := Kd.at_string (Kd.R_reads' hr3).2.2 (j : Int) (by omega) (by omega)
                cases ead
                have hs : rdOf ByteArray.empty ss (j : Int) = ss[j] := by
                  unfold rdOf
                  rw [Int.toNat_natCast, List.getD_eq_getElem?_getD, List.getElem?_eq_getElem hj2]
                  rfl
                rw [hs] at hcell
                rw [Int.toNat_natCast] at hcell
                have z3 : wrap64 (1 - 1) = 0 := by unfold wrap64; omega
                have z4 : wrap64 0 = 0 := by unfold wrap64; omega
                have HE3 := Aside0.mk he3
                have HS3 := Aside0.mk hs3
                have HX := Aside0.mk (And.intro hr3 hbw3)
                have HJ := Aside0.mk (tickI_succ (L := L) (tt := 0) (ss := ss) hj2)
                clear he3 hs3 hr3 hbw3 hs HI
                generalize ss[j] = s at hcell HJ
                go_wp2_with fail
                (with_reducible refine (ends_send.callsF b g _ (⟨0, s, false⟩ : S65) f3 _ HE3.out HS3.out).mono ?_)
                rintro e w5 ⟨rfl, ⟨f5, he5, hk5⟩, hb5⟩
                have HI5 : Aside0 (TickJ b w w5 g L 0 (some ad) c2 ss (j + 1)) := ⟨⟨f5, by rw [HJ.out]; exact he5, Kd.R_mono (Kd.R_move (Kd.R_bound HX.out.1) (fun k hk => (hk5 k hk.2.2.1 hk.1).2)) (fun k hk => (hk5 k hk.2.2.1 hk.1).1), HX.out.2.trans (by rw [← HBS.out]; exact hb5), Nat.le_trans HS3.out hb5.size⟩⟩
                clear he5 hk5 hb5 HX HE3 HS3 HJ
                go_wp2
                go_roundw
                case rel => exact ⟨j + 1, by omega, by go_num, HI5⟩
                case measure => simp [intOf]; omega
              · obtain rfl : j = ss.length := by omega
                obtain ⟨f3, he3, _, hbw3, hs3⟩ := HI.out
                rw [List.take_length] at he3
                have HL3 : Aside0 (∃ L, Ends b wr g L ∧ (LS.tks k (2 - 2) L).bind (rounds k m) = some Lf) := ⟨⟨_, ⟨f3, he3⟩, HO.out⟩⟩
                have HW3 := Aside0.mk hbw3
                have HS3 := Aside0.mk hs3
                clear he3 hbw3 hs3 HI HO
                go_wp2
                go_roundw
                case rel => exact ⟨2, by omega, by go_num, HL3, HW3, HS3⟩
                case measure => simp [intOf]
          · replace HL : Aside0 (∃ L, Ends b wr g L ∧ (flow k 100 L).bind (rounds k m) = some Lf) := ⟨by
              obtain ⟨L, h1, h2⟩ := HL.out
              rw [show 2 - 2 = 0 from rfl, LS.tks] at h2
              exact ⟨L, h1, h2⟩⟩
            go_wp2
            go_loopg [] 100 (fun n wr => Aside0 (∃ L, Ends b wr g L ∧ (flow k n L).bind (rounds k m) = some Lf) ∧ Aside0 (Below w.heap.size w wr) ∧ Aside0 (b ≤ wr.heap.size))
            case atStart => exact ⟨HL, HW, HS⟩
            case round =>
              clear HL HW HS
              obtain ⟨HL, HW, HS⟩ := hrel
              obtain ⟨L, hE, hO⟩ := HL.out
              obtain ⟨f, v0, v1, vn, q0, q1, r0, r1, hev⟩ := hE
              obtain ⟨An, cn, hvn, hnc, hC⟩ := Kd.R_reads hev.hn
              subst hvn
              have hmax2 : L.net.length ≤ 9223372036854775807 := hC.2.1
              have x10 : wr.cell? ⟨g, 10, none⟩ = some (.slice An L.net.length cn) := (hev.cell 10).trans rfl
              have HE : Aside0 (Ends b wr g L) := ⟨⟨f, _, _, _, _, _, _, _, hev⟩⟩
              clear hnc hC hev HL
              by_cases hn : L.net = []
              · have n1 : decide ((0 : Int) < (L.net.length : Int)) = false := by rw [hn]; rfl
                have n2 : decide (0 < L.net.length) = false := by rw [hn]; rfl
                have n3 : (L.net = []) = True := eq_true hn
                have HL3 : Aside0 (∃ L, Ends b wr g L ∧ rounds k (64 - (jj + 1)) L = some Lf) := ⟨by
                  refine ⟨L, HE.out, ?_⟩
                  cases gk with
                  | zero => rw [flow] at hO; cases hO
                  | succ n => rw [flow, if_pos hn] at hO; rw [← HM.out]; exact hO⟩
                clear hO hn HE
                go_wp2
                go_roundw
                case rel => exact ⟨jj + 1, by omega, by go_num, HL3, HW, HS⟩
                case measure => simp [intOf]; omega
              · have HN : Aside0 (0 < L.net.length) := ⟨List.length_pos_iff.2 hn⟩
                have n1 : decide ((0 : Int) < (L.net.length : Int)) = true := decide_eq_true (by have := HN.out; omega)
                have n2 : decide (0 < L.net.length) = true := decide_eq_true HN.out
                have n3 : (L.net = []) = False := eq_false hn
                obtain ⟨n, hgk, hln, hto⟩ := flow_one hO hn
                have HLN := Aside0.mk hln
                clear hO hn hln
                rcases hto with ⟨hto, T, hk, hlc, hO⟩ | ⟨hto, T, hk, hlc, hO⟩
                · have HO := Aside0.mk hO
                  clear hO
                  have HKT := Aside0.mk hk
                  have HLC := Aside0.mk hlc
                  have HT := Aside0.mk hto
                  clear hk hlc hto
                  go_wp2_with fail
                  (with_reducible refine (ends_gone0.calls0 b g L _ HE.out HS.out HN.out HLN.out HT.out).mono ?_)
                  rintro e w1 ⟨rfl, he, hb⟩
                  have HE1 := Aside0.mk he
                  have HW1 : Aside0 (Below w.heap.size w w1) := ⟨HW.out.trans (by rw [← HBS.out]; exact hb)⟩
                  have HS1 := Aside0.mk (Nat.le_trans HS.out hb.size)
                  have HC := Aside0.mk (ends_comes0.calls k b g (L.gone 0) (rd_T65 L.net 0).f1 (rd_T65 L.net 0).f2 T w1 HE1.out HS1.out HLC.out HKT.out)
                  clear he hb HE HW HS HN HLN HT
                  go_wp2_with fail
                  (with_reducible refine HC.out.mono ?_)
                  rintro e w2 ⟨rfl, he, hb⟩
                  have HL2 : Aside0 (∃ L, Ends b w2 g L ∧ (flow k n L).bind (rounds k m) = some Lf) := ⟨⟨_, he, HO.out⟩⟩
                  have HW2 : Aside0 (Below w.heap.size w w2) := ⟨HW1.out.trans (by rw [← HBS.out]; exact hb)⟩
                  have HS2 := Aside0.mk (Nat.le_trans HS1.out hb.size)
                  clear he hb HE1 HW1 HS1 HLC HKT HO HC
                  go_wp2
                  go_roundg n
                  case rel => exact ⟨HL2, HW2, HS2⟩
                  case measure => omega
                · have HO := Aside0.mk hO
                  clear hO
                  have HKT := Aside0.mk hk
                  have HLC := Aside0.mk hlc
                  have HT := Aside0.mk hto
                  clear hk hlc hto
                  go_wp2_with fail
                  (with_reducible refine (ends_gone0.calls1 b g L _ HE.out HS.out HN.out HLN.out HT.out).mono ?_)
                  rintro e w1 ⟨rfl, he, hb⟩
                  have HE1 := Aside0.mk he
                  have HW1 : Aside0 (Below w.heap.size w w1) := ⟨HW.out.trans (by rw [← HBS.out]; exact hb)⟩
                  have HS1 := Aside0.mk (Nat.le_trans HS.out hb.size)
                  have HC := Aside0.mk (ends_comes1.calls k b g (L.gone 0) (rd_T65 L.net 0).f1 (rd_T65 L.net 0).f2 T w1 HE1.out HS1.out HLC.out HKT.out)
                  clear he hb HE HW HS HN HLN HT
                  go_wp2_with fail
                  (with_reducible refine HC.out.mono ?_)
                  rintro e w2 ⟨rfl, he, hb⟩
                  have HL2 : Aside0 (∃ L, Ends b w2 g L ∧ (flow k n L).bind (rounds k m) = some Lf) := ⟨⟨_, he, HO.out⟩⟩
                  have HW2 : Aside0 (Below w.heap.size w w2) := ⟨HW1.out.trans (by rw [← HBS.out]; exact hb)⟩
                  have HS2 := Aside0.mk (Nat.le_trans HS1.out hb.size)
                  clear he hb HE1 HW1 HS1 HLC HKT HO HC
                  go_wp2
                  go_roundg n
                  case rel => exact ⟨HL2, HW2, HS2⟩
                  case measure => omega
      · have c1 : decide ((jj : Int) < 64) = false := decide_eq_false (by omega)
        obtain ⟨L, hE, hO⟩ := HL.out
        rw [show 64 - jj = 0 by omega, rounds] at hO
        obtain rfl := Option.some.inj hO
        obtain ⟨b1, hb1, hF1⟩ := Option.bind_eq_some_iff.1 HF.out
        obtain ⟨b2, hb2, hF⟩ := Option.bind_eq_some_iff.1 hF1
        clear hF1
        by_cases hg : b1 = true ∧ b2 = true ∧ L.x0.f3 = [] ∧ L.x1.f3 = []
        · rw [if_pos hg] at hF
          obtain ⟨rfl, rfl, hx0, hx1⟩ := hg
          have HA := Aside0.mk hF
          have HB1 := Aside0.mk hb1
          have HB2 := Aside0.mk hb2
          obtain ⟨f, v0, v1, vn, q0, q1, r0, r1, hev⟩ := hE
          obtain ⟨Ac0, cc0, hvc0, qc0, _⟩ := Kd.R_reads hev.hc0
          obtain ⟨Ac1, cc1, hvc1, qc1, _⟩ := Kd.R_reads hev.hc1
          obtain ⟨Ap0, cp0, hvp0, qp0, _⟩ := Kd.R_reads hev.hp0
          obtain ⟨Ap1, cp1, hvp1, qp1, _⟩ := Kd.R_reads hev.hp1
          obtain ⟨Ax0, cx0, hvx0, _, _⟩ := Kd.Q_reads hev.h0
          obtain ⟨Ax1, cx1, hvx1, _, _⟩ := Kd.Q_reads hev.h1
          subst hvc0 hvc1 hvp0 hvp1 hvx0 hvx1
          have HQ := Aside0.mk (And.intro qc0 (And.intro qp1 (And.intro qc1 qp0)))
          have HE3 := Aside0.mk hev
          have n0 : ((L.x0.f3.length : Int) == 0) = true := by rw [hx0]; rfl
          have n1 : ((L.x1.f3.length : Int) == 0) = true := by rw [hx1]; rfl
          clear hb1 hb2 hF hO hev qc0 qc1 qp0 qp1 HL HF hx0 hx1
          go_upto_region 25 with (fail)
          replace HE3 := Aside0.mk HE3.out.drew
          have HW3 := Aside0.mk HW.out.drew
          clear HW HS
          refine start_ (n := 48) (S := fun w' => w'.cell? ⟨g, 13, none⟩ = some (.slice Ac0 L.c0.length cc0) ∧ w'.cell? ⟨g, 12, none⟩ = some (.slice Ap1 L.p1.length cp1) ∧ w'.cell? ⟨g, 14, none⟩ = some (.slice Ac1 L.c1.length cc1) ∧ w'.cell? ⟨g, 11, none⟩ = some (.slice Ap0 L.p0.length cp0) ∧ w'.cell? ⟨g, 3, none⟩ = some (.slice Ax0 L.x0.f3.length cx0) ∧ w'.cell? ⟨g, 8, none⟩ = some (.slice Ax1 L.x1.f3.length cx1)) (ds := []) #[false, false, false, false, false, false, false, false, false, false, false, false, false, false, false, false, false, false, false, false, false, false, false, false, false, false, false, false, false, false, false, false, false, false, false, false, false, false, false, false, false, false, false, false, false, false, false, false] (by kernel_rfl) rfl rfl ⟨((HE3.out.cell 13).trans rfl), ((HE3.out.cell 12).trans rfl), ((HE3.out.cell 14).trans rfl), ((HE3.out.cell 11).trans rfl), ((HE3.out.cell 3).trans rfl), ((HE3.out.cell 8).trans rfl)⟩ (fun hHeld => ?_)
          generalize World.drew wr = V at HE3 HW3 hHeld ⊢
          refine pure_ (i := 0) (N := some 80) (v := ?_) (a' := ?_) #[true, false, false, false, false, false, false, false, false, false, false, false, false, false, false, false, false, false, false, false, false, false, false, false, false, false, false, false, false, false, false, false, false, false, false, false, false, false, false, false, false, false, false, false, false, false, false, false] rfl rfl (by kernel_rfl) (fun _ _ _ h => h) (Or.inl ⟨by rfl, ?_⟩) ?_ ?_
          rotate_left
          · intro w'
            go_simp
            with_reducible rfl
          rotate_left
          · exact put_
          refine pure_ (i := 1) (N := some 81) (v := ?_) (a' := ?_) #[true, true, false, false, false, false, false, false, false, false, false, false, false, false, false, false, false, false, false, false, false, false, false, false, false, false, false, false, false, false, false, false, false, false, false, false, false, false, false, false, false, false, false, false, false, false, false, false] rfl rfl (by kernel_rfl) (fun _ _ _ h => h) (Or.inl ⟨by rfl, ?_⟩) ?_ ?_
          rotate_left
          · intro w'
            go_simp
            with_reducible rfl
          rotate_left
          · exact put_
          refine pure_ (i := 2) (N := some 82) (v := ?_) (a' := ?_) #[true, true, true, false, false, false, false, false, false, false, false, false, false, false, false, false, false, false, false, false, false, false, false, false, false, false, false, false, false, false, false, false, false, false, false, false, false, false, false, false, false, false, false, false, false, false, false, false] rfl rfl (by kernel_rfl) (fun _ _ _ h => h) (Or.inl ⟨by rfl, ?_⟩) ?_ ?_
          rotate_left
          · intro w'
            go_simp
            with_reducible rfl
          rotate_left
          · exact put_
          refine pure_ (i := 3) (N := some 83) (v := ?_) (a' := ?_) #[true, true, true, true, false, false, false, false, false, false, false, false, false, false, false, false, false, false, false, false, false, false, false, false, false, false, false, false, false, false, false, false, false, false, false, false, false, false, false, false, false, false, false, false, false, false, false, false] rfl rfl (by kernel_rfl) (fun _ _ _ h => h) (Or.inl ⟨by rfl, ?_⟩) ?_ ?_
          rotate_left
          · intro w'
            go_simp
            with_reducible rfl
          rotate_left
          · exact put_
          refine pure_ (i := 5) (N := some 85) (v := ?_) (a' := ?_) #[true, true, true, true, false, true, false, false, false, false, false, false, false, false, false, false, false, false, false, false, false, false, false, false, false, false, false, false, false, false, false, false, false, false, false, false, false, false, false, false, false, false, false, false, false, false, false, false] rfl rfl (by kernel_rfl) (fun _ _ _ h => h) (Or.inl ⟨by rfl, ?_⟩) ?_ ?_
          rotate_left
          · intro w'
            go_simp
            with_reducible rfl
          rotate_left
          · exact put_
          refine pure_ (i := 6) (N := some 86) (v := ?_) (a' := ?_) #[true, true, true, true, false, true, true, false, false, false, false, false, false, false, false, false, false, false, false, false, false, false, false, false, false, false, false, false, false, false, false, false, false, false, false, false, false, false, false, false, false, false, false, false, false, false, false, false] rfl rfl (by kernel_rfl) (fun _ _ _ h => h) (Or.inl ⟨by rfl, ?_⟩) ?_ ?_
          rotate_left
          · intro w'
            go_simp
            with_reducible rfl
          rotate_left
          · exact put_
          refine pure_ (i := 7) (N := some 87) (v := ?_) (a' := ?_) #[true, true, true, true, false, true, true, true, false, false, false, false, false, false, false, false, false, false, false, false, false, false, false, false, false, false, false, false, false, false, false, false, false, false, false, false, false, false, false, false, false, false, false, false, false, false, false, false] rfl rfl (by kernel_rfl) (fun _ _ _ h => h) (Or.inl ⟨by rfl, ?_⟩) ?_ ?_
          rotate_left
          · intro w'
            go_simp
            with_reducible rfl
          rotate_left
          · exact put_
          refine pure_ (i := 8) (N := some 88) (v := ?_) (a' := ?_) #[true, true, true, true, false, true, true, true, true, false, false, false, false, false, false, false, false, false, false, false, false, false, false, false, false, false, false, false, false, false, false, false, false, false, false, false, false, false, false, false, false, false, false, false, false, false, false, false] rfl rfl (by kernel_rfl) (fun _ _ _ h => h) (Or.inl ⟨by rfl, ?_⟩) ?_ ?_
          rotate_left
          · intro w'
            go_simp
            with_reducible rfl
          rotate_left
          · exact put_
          refine take_ (i := 4) (N := some 84) (v := ?_) (a' := ?_) #[true, true, true, true, true, true, true, true, true, false, false, false, false, false, false, false, false, false, false, false, false, false, false, false, false, false, false, false, false, false, false, false, false, false, false, false, false, false, false, false, false, false, false, false, false, false, false, false] rfl rfl (by kernel_rfl) (fun _ _ _ h => h) (Or.inl ⟨by rfl, ?_⟩) hHeld ?_ ?_
          rotate_left
          · rintro w' ⟨s0, s1, s2, s3, s4, s5⟩
            go_simp
            with_reducible rfl
          rotate_left
          · exact put_
          refine take_ (i := 9) (N := some 89) (v := ?_) (a' := ?_) #[true, true, true, true, true, true, true, true, true, true, false, false, false, false, false, false, false, false, false, false, false, false, false, false, false, false, false, false, false, false, false, false, false, false, false, false, false, false, false, false, false, false, false, false, false, false, false, false] rfl rfl (by kernel_rfl) (fun _ _ _ h => h) (Or.inl ⟨by rfl, ?_⟩) hHeld ?_ ?_
          rotate_left
          · rintro w' ⟨s0, s1, s2, s3, s4, s5⟩
            go_simp
            with_reducible rfl
          rotate_left
          · exact put_
          refine one_ (i := 10) (N := some 90) #[true, true, true, true, true, true, true, true, true, true, true, false, false, false, false, false, false, false, false, false, false, false, false, false, false, false, false, false, false, false, false, false, false, false, false, false, false, false, false, false, false, false, false, false, false, false, false, false] rfl rfl (by kernel_rfl) (by decide) (fun K hK => ?_)
          refine goes_ Try.func19 (by kernel_rfl) rfl #[.slice Ac0 L.c0.length cc0, .slice Ap1 L.p1.length cp1] (by rfl) rfl rfl (by simp only [List.map_toArray, List.map_cons, List.map_nil]; rfl) ?_
          with_reducible refine (counterfoilref01_Same.calls k Ac0 cc0 L.c0 Ap1 cp1 L.p1 true _ (Kd.R_reads' HE3.out.hc0).2.2 HQ.out.1 (Kd.R_reads' HE3.out.hp1).2.2 HQ.out.2.1 HB1.out).mono ?_
          rintro e wt ⟨rfl, hbd⟩
          refine ⟨_, rfl, ?_⟩
          have hbt := Drawn0.below hbd
          have HE4 := Aside0.mk (HE3.out.below hbt)
          have HE4B := Aside0.mk hbt
          clear hbt hbd
          refine hK.out _ _ ⟨((HE4.out.cell 13).trans rfl), ((HE4.out.cell 12).trans rfl), ((HE4.out.cell 14).trans rfl), ((HE4.out.cell 11).trans rfl), ((HE4.out.cell 3).trans rfl), ((HE4.out.cell 8).trans rfl)⟩ (fun hHeld => ?_)
          clear hK K
          refine norm_ (a' := ?_) ?_ ?_
          rotate_left
          · show Act.put _ (some 90) _ = _
            exact put_
          refine pure_ (i := 11) (N := some 91) (v := ?_) (a' := ?_) #[true, true, true, true, true, true, true, true, true, true, true, true, false, false, false, false, false, false, false, false, false, false, false, false, false, false, false, false, false, false, false, false, false, false, false, false, false, false, false, false, false, false, false, false, false, false, false, false] rfl rfl (by kernel_rfl) (fun _ _ _ h => h) (Or.inl ⟨by rfl, ?_⟩) ?_ ?_
          rotate_left
          · intro w'
            go_simp
            with_reducible rfl
          rotate_left
          · exact put_
          refine pure_ (i := 12) (N := some 92) (v := ?_) (a' := ?_) #[true, true, true, true, true, true, true, true, true, true, true, true, true, false, false, false, false, false, false, false, false, false, false, false, false, false, false, false, false, false, false, false, false, false, false, false, false, false, false, false, false, false, false, false, false, false, false, false] rfl rfl (by kernel_rfl) (fun _ _ _ h => h) (Or.inl ⟨by rfl, ?_⟩) ?_ ?_
          rotate_left
          · intro w'
            go_simp
            with_reducible rfl
          rotate_left
          · exact put_
          refine pure_ (i := 13) (N := some 93) (v := ?_) (a' := ?_) #[true, true, true, true, true, true, true, true, true, true, true, true, true, true, false, false, false, false, false, false, false, false, false, false, false, false, false, false, false, false, false, false, false, false, false, false, false, false, false, false, false, false, false, false, false, false, false, false] rfl rfl (by kernel_rfl) (fun _ _ _ h => h) (Or.inl ⟨by rfl, ?_⟩) ?_ ?_
          rotate_left
          · intro w'
            go_simp
            with_reducible rfl
          rotate_left
          · exact put_
          refine pure_ (i := 14) (N := some 94) (v := ?_) (a' := ?_) #[true, true, true, true, true, true, true, true, true, true, true, true, true, true, true, false, false, false, false, false, false, false, false, false, false, false, false, false, false, false, false, false, false, false, false, false, false, false, false, false, false, false, false, false, false, false, false, false] rfl rfl (by kernel_rfl) (fun _ _ _ h => h) (Or.inl ⟨by rfl, ?_⟩) ?_ ?_
          rotate_left
          · intro w'
            go_simp
            with_reducible rfl
          rotate_left
          · exact put_
          refine pure_ (i := 15) (N := some 95) (v := ?_) (a' := ?_) #[true, true, true, true, true, true, true, true, true, true, true, true, true, true, true, true, false, false, false, false, false, false, false, false, false, false, false, false, false, false, false, false, false, false, false, false, false, false, false, false, false, false, false, false, false, false, false, false] rfl rfl (by kernel_rfl) (fun _ _ _ h => h) (Or.inl ⟨by rfl, ?_⟩) ?_ ?_
          rotate_left
          · intro w'
            go_simp
            with_reducible rfl
          rotate_left
          · exact put_
          refine pure_ (i := 17) (N := some 97) (v := ?_) (a' := ?_) #[true, true, true, true, true, true, true, true, true, true, true, true, true, true, true, true, false, true, false, false, false, false, false, false, false, false, false, false, false, false, false, false, false, false, false, false, false, false, false, false, false, false, false, false, false, false, false, false] rfl rfl (by kernel_rfl) (fun _ _ _ h => h) (Or.inl ⟨by rfl, ?_⟩) ?_ ?_
          rotate_left
          · intro w'
            go_simp
            with_reducible rfl
          rotate_left
          · exact put_
          refine pure_ (i := 18) (N := some 98) (v := ?_) (a' := ?_) #[true, true, true, true, true, true, true, true, true, true, true, true, true, true, true, true, false, true, true, false, false, false, false, false, false, false, false, false, false, false, false, false, false, false, false, false, false, false, false, false, false, false, false, false, false, false, false, false] rfl rfl (by kernel_rfl) (fun _ _ _ h => h) (Or.inl ⟨by rfl, ?_⟩) ?_ ?_
          rotate_left
          · intro w'
            go_simp
            with_reducible rfl
          rotate_left
          · exact put_
          refine pure_ (i := 19) (N := some 99) (v := ?_) (a' := ?_) #[true, true, true, true, true, true, true, true, true, true, true, true, true, true, true, true, false, true, true, true, false, false, false, false, false, false, false, false, false, false, false, false, false, false, false, false, false, false, false, false, false, false, false, false, false, false, false, false] rfl rfl (by kernel_rfl) (fun _ _ _ h => h) (Or.inl ⟨by rfl, ?_⟩) ?_ ?_
          rotate_left
          · intro w'
            go_simp
            with_reducible rfl
          rotate_left
          · exact put_
          refine pure_ (i := 20) (N := some 100) (v := ?_) (a' := ?_) #[true, true, true, true, true, true, true, true, true, true, true, true, true, true, true, true, false, true, true, true, true, false, false, false, false, false, false, false, false, false, false, false, false, false, false, false, false, false, false, false, false, false, false, false, false, false, false, false] rfl rfl (by kernel_rfl) (fun _ _ _ h => h) (Or.inl ⟨by rfl, ?_⟩) ?_ ?_
          rotate_left
          · intro w'
            go_simp
            with_reducible rfl
          rotate_left
          · exact put_
          refine take_ (i := 16) (N := some 96) (v := ?_) (a' := ?_) #[true, true, true, true, true, true, true, true, true, true, true, true, true, true, true, true, true, true, true, true, true, false, false, false, false, false, false, false, false, false, false, false, false, false, false, false, false, false, false, false, false, false, false, false, false, false, false, false] rfl rfl (by kernel_rfl) (fun _ _ _ h => h) (Or.inl ⟨by rfl, ?_⟩) hHeld ?_ ?_
          rotate_left
          · rintro w' ⟨s0, s1, s2, s3, s4, s5⟩
            go_simp
            with_reducible rfl
          rotate_left
          · exact put_
          refine take_ (i := 21) (N := some 101) (v := ?_) (a' := ?_) #[true, true, true, true, true, true, true, true, true, true, true, true, true, true, true, true, true, true, true, true, true, true, false, false, false, false, false, false, false, false, false, false, false, false, false, false, false, false, false, false, false, false, false, false, false, false, false, false] rfl rfl (by kernel_rfl) (fun _ _ _ h => h) (Or.inl ⟨by rfl, ?_⟩) hHeld ?_ ?_
          rotate_left
          · rintro w' ⟨s0, s1, s2, s3, s4, s5⟩
            go_simp
            with_reducible rfl
          rotate_left
          · exact put_
          refine one_ (i := 22) (N := some 102) #[true, true, true, true, true, true, true, true, true, true, true, true, true, true, true, true, true, true, true, true, true, true, true, false, false, false, false, false, false, false, false, false, false, false, false, false, false, false, false, false, false, false, false, false, false, false, false, false] rfl rfl (by kernel_rfl) (by decide) (fun K hK => ?_)
          refine goes_ Try.func19 (by kernel_rfl) rfl #[.slice Ac1 L.c1.length cc1, .slice Ap0 L.p0.length cp0] (by rfl) rfl rfl (by simp only [List.map_toArray, List.map_cons, List.map_nil]; rfl) ?_
          with_reducible refine (counterfoilref01_Same.calls k Ac1 cc1 L.c1 Ap0 cp0 L.p0 true _ (Kd.R_reads' HE4.out.hc1).2.2 HQ.out.2.2.1 (Kd.R_reads' HE4.out.hp0).2.2 HQ.out.2.2.2 HB2.out).mono ?_
          rintro e wu ⟨rfl, hbd⟩
          refine ⟨_, rfl, ?_⟩
          have hbt := Drawn0.below hbd
          have HE5 := Aside0.mk (HE4.out.below hbt)
          have HE5B := Aside0.mk hbt
          clear hbt hbd
          refine hK.out _ _ ⟨((HE5.out.cell 13).trans rfl), ((HE5.out.cell 12).trans rfl), ((HE5.out.cell 14).trans rfl), ((HE5.out.cell 11).trans rfl), ((HE5.out.cell 3).trans rfl), ((HE5.out.cell 8).trans rfl)⟩ (fun hHeld => ?_)
          clear hK K
          refine norm_ (a' := ?_) ?_ ?_
          rotate_left
          · show Act.put _ (some 102) _ = _
            exact put_
          refine pure_ (i := 23) (N := some 103) (v := ?_) (a' := ?_) #[true, true, true, true, true, true, true, true, true, true, true, true, true, true, true, true, true, true, true, true, true, true, true, true, false, false, false, false, false, false, false, false, false, false, false, false, false, false, false, false, false, false, false, false, false, false, false, false] rfl rfl (by kernel_rfl) (fun _ _ _ h => h) (Or.inl ⟨by rfl, ?_⟩) ?_ ?_
          rotate_left
          · intro w'
            go_simp
            with_reducible rfl
          rotate_left
          · exact put_
          refine pure_ (i := 24) (N := some 104) (v := ?_) (a' := ?_) #[true, true, true, true, true, true, true, true, true, true, true, true, true, true, true, true, true, true, true, true, true, true, true, true, true, false, false, false, false, false, false, false, false, false, false, false, false, false, false, false, false, false, false, false, false, false, false, false] rfl rfl (by kernel_rfl) (fun _ _ _ h => h) (Or.inl ⟨by rfl, ?_⟩) ?_ ?_
          rotate_left
          · intro w'
            go_simp
            with_reducible rfl
          rotate_left
          · exact put_
          refine pure_ (i := 25) (N := some 105) (v := ?_) (a' := ?_) #[true, true, true, true, true, true, true, true, true, true, true, true, true, true, true, true, true, true, true, true, true, true, true, true, true, true, false, false, false, false, false, false, false, false, false, false, false, false, false, false, false, false, false, false, false, false, false, false] rfl rfl (by kernel_rfl) (fun _ _ _ h => h) (Or.inl ⟨by rfl, ?_⟩) ?_ ?_
          rotate_left
          · intro w'
            go_simp
            with_reducible rfl
          rotate_left
          · exact put_
          refine pure_ (i := 26) (N := some 106) (v := ?_) (a' := ?_) #[true, true, true, true, true, true, true, true, true, true, true, true, true, true, true, true, true, true, true, true, true, true, true, true, true, true, true, false, false, false, false, false, false, false, false, false, false, false, false, false, false, false, false, false, false, false, false, false] rfl rfl (by kernel_rfl) (fun _ _ _ h => h) (Or.inl ⟨by rfl, ?_⟩) ?_ ?_
          rotate_left
          · intro w'
            go_simp
            with_reducible rfl
          rotate_left
          · exact put_
          refine pure_ (i := 27) (N := some 107) (v := ?_) (a' := ?_) #[true, true, true, true, true, true, true, true, true, true, true, true, true, true, true, true, true, true, true, true, true, true, true, true, true, true, true, true, false, false, false, false, false, false, false, false, false, false, false, false, false, false, false, false, false, false, false, false] rfl rfl (by kernel_rfl) (fun _ _ _ h => h) (Or.inl ⟨by rfl, ?_⟩) ?_ ?_
          rotate_left
          · intro w'
            go_simp
            with_reducible rfl
          rotate_left
          · exact put_
          refine pure_ (i := 28) (N := some 108) (v := ?_) (a' := ?_) #[true, true, true, true, true, true, true, true, true, true, true, true, true, true, true, true, true, true, true, true, true, true, true, true, true, true, true, true, true, false, false, false, false, false, false, false, false, false, false, false, false, false, false, false, false, false, false, false] rfl rfl (by kernel_rfl) (fun _ _ _ h => h) (Or.inl ⟨by rfl, ?_⟩) ?_ ?_
          rotate_left
          · intro w'
            go_simp
            with_reducible rfl
          rotate_left
          · exact put_
          refine pure_ (i := 29) (N := some 109) (v := ?_) (a' := ?_) #[true, true, true, true, true, true, true, true, true, true, true, true, true, true, true, true, true, true, true, true, true, true, true, true, true, true, true, true, true, true, false, false, false, false, false, false, false, false, false, false, false, false, false, false, false, false, false, false] rfl rfl (by kernel_rfl) (fun _ _ _ h => h) (Or.inl ⟨by rfl, ?_⟩) ?_ ?_
          rotate_left
          · intro w'
            go_simp
            with_reducible rfl
          rotate_left
          · exact put_
          refine take_ (i := 30) (N := some 110) (v := ?_) (a' := ?_) #[true, true, true, true, true, true, true, true, true, true, true, true, true, true, true, true, true, true, true, true, true, true, true, true, true, true, true, true, true, true, true, false, false, false, false, false, false, false, false, false, false, false, false, false, false, false, false, false] rfl rfl (by kernel_rfl) (fun _ _ _ h => h) (Or.inl ⟨by rfl, ?_⟩) hHeld ?_ ?_
          rotate_left
          · rintro w' ⟨s0, s1, s2, s3, s4, s5⟩
            go_simp
            with_reducible rfl
          rotate_left
          · exact put_
          refine pure_ (i := 31) (N := some 111) (v := ?_) (a' := ?_) #[true, true, true, true, true, true, true, true, true, true, true, true, true, true, true, true, true, true, true, true, true, true, true, true, true, true, true, true, true, true, true, true, false, false, false, false, false, false, false, false, false, false, false, false, false, false, false, false] rfl rfl (by kernel_rfl) (fun _ _ _ h => h) (Or.inl ⟨by rfl, ?_⟩) ?_ ?_
          rotate_left
          · intro w'
            go_simp
            with_reducible rfl
          rotate_left
          · exact put_
          refine pure_ (i := 32) (N := some 112) (v := ?_) (a' := ?_) #[true, true, true, true, true, true, true, true, true, true, true, true, true, true, true, true, true, true, true, true, true, true, true, true, true, true, true, true, true, true, true, true, true, false, false, false, false, false, false, false, false, false, false, false, false, false, false, false] rfl rfl (by kernel_rfl) (fun _ _ _ h => h) (Or.inl ⟨by rfl, ?_⟩) ?_ ?_
          rotate_left
          · intro w'
            go_simp
            with_reducible rfl
          rotate_left
          · exact put_
          refine pure_ (i := 33) (N := some 113) (v := ?_) (a' := ?_) #[true, true, true, true, true, true, true, true, true, true, true, true, true, true, true, true, true, true, true, true, true, true, true, true, true, true, true, true, true, true, true, true, true, true, false, false, false, false, false, false, false, false, false, false, false, false, false, false] rfl rfl (by kernel_rfl) (fun _ _ _ h => h) (Or.inl ⟨by rfl, ?_⟩) ?_ ?_
          rotate_left
          · intro w'
            go_simp
            with_reducible rfl
          rotate_left
          · exact put_
          refine pure_ (i := 34) (N := some 114) (v := ?_) (a' := ?_) #[true, true, true, true, true, true, true, true, true, true, true, true, true, true, true, true, true, true, true, true, true, true, true, true, true, true, true, true, true, true, true, true, true, true, true, false, false, false, false, false, false, false, false, false, false, false, false, false] rfl rfl (by kernel_rfl) (fun _ _ _ h => h) (Or.inl ⟨by rfl, ?_⟩) ?_ ?_
          rotate_left
          · intro w'
            go_simp
            with_reducible rfl
          rotate_left
          · exact put_
          refine pure_ (i := 35) (N := some 115) (v := ?_) (a' := ?_) #[true, true, true, true, true, true, true, true, true, true, true, true, true, true, true, true, true, true, true, true, true, true, true, true, true, true, true, true, true, true, true, true, true, true, true, true, false, false, false, false, false, false, false, false, false, false, false, false] rfl rfl (by kernel_rfl) (fun _ _ _ h => h) (Or.inl ⟨by rfl, ?_⟩) ?_ ?_
          rotate_left
          · intro w'
            go_simp
            with_reducible rfl
          rotate_left
          · exact put_
          refine pure_ (i := 36) (N := some 116) (v := ?_) (a' := ?_) #[true, true, true, true, true, true, true, true, true, true, true, true, true, true, true, true, true, true, true, true, true, true, true, true, true, true, true, true, true, true, true, true, true, true, true, true, true, false, false, false, false, false, false, false, false, false, false, false] rfl rfl (by kernel_rfl) (fun _ _ _ h => h) (Or.inl ⟨by rfl, ?_⟩) ?_ ?_
          rotate_left
          · intro w'
            go_simp
            with_reducible rfl
          rotate_left
          · exact put_
          refine pure_ (i := 37) (N := some 117) (v := ?_) (a' := ?_) #[true, true, true, true, true, true, true, true, true, true, true, true, true, true, true, true, true, true, true, true, true, true, true, true, true, true, true, true, true, true, true, true, true, true, true, true, true, true, false, false, false, false, false, false, false, false, false, false] rfl rfl (by kernel_rfl) (fun _ _ _ h => h) (Or.inl ⟨by rfl, ?_⟩) ?_ ?_
          rotate_left
          · intro w'
            go_simp
            with_reducible rfl
          rotate_left
          · exact put_
          refine pure_ (i := 38) (N := some 118) (v := ?_) (a' := ?_) #[true, true, true, true, true, true, true, true, true, true, true, true, true, true, true, true, true, true, true, true, true, true, true, true, true, true, true, true, true, true, true, true, true, true, true, true, true, true, true, false, false, false, false, false, false, false, false, false] rfl rfl (by kernel_rfl) (fun _ _ _ h => h) (Or.inl ⟨by rfl, ?_⟩) ?_ ?_
          rotate_left
          · intro w'
            go_simp
            with_reducible rfl
          rotate_left
          · exact put_
          refine pure_ (i := 39) (N := some 119) (v := ?_) (a' := ?_) #[true, true, true, true, true, true, true, true, true, true, true, true, true, true, true, true, true, true, true, true, true, true, true, true, true, true, true, true, true, true, true, true, true, true, true, true, true, true, true, true, false, false, false, false, false, false, false, false] rfl rfl (by kernel_rfl) (fun _ _ _ h => h) (Or.inl ⟨by rfl, ?_⟩) ?_ ?_
          rotate_left
          · intro w'
            go_simp
            with_reducible rfl
          rotate_left
          · exact put_
          refine take_ (i := 40) (N := some 120) (v := ?_) (a' := ?_) #[true, true, true, true, true, true, true, true, true, true, true, true, true, true, true, true, true, true, true, true, true, true, true, true, true, true, true, true, true, true, true, true, true, true, true, true, true, true, true, true, true, false, false, false, false, false, false, false] rfl rfl (by kernel_rfl) (fun _ _ _ h => h) (Or.inl ⟨by rfl, ?_⟩) hHeld ?_ ?_
          rotate_left
          · rintro w' ⟨s0, s1, s2, s3, s4, s5⟩
            go_simp
            with_reducible rfl
          rotate_left
          · exact put_
          refine pure_ (i := 41) (N := some 121) (v := ?_) (a' := ?_) #[true, true, true, true, true, true, true, true, true, true, true, true, true, true, true, true, true, true, true, true, true, true, true, true, true, true, true, true, true, true, true, true, true, true, true, true, true, true, true, true, true, true, false, false, false, false, false, false] rfl rfl (by kernel_rfl) (fun _ _ _ h => h) (Or.inl ⟨by rfl, ?_⟩) ?_ ?_
          rotate_left
          · intro w'
            go_simp
            with_reducible rfl
          rotate_left
          · exact put_
          refine pure_ (i := 42) (N := some 122) (v := ?_) (a' := ?_) #[true, true, true, true, true, true, true, true, true, true, true, true, true, true, true, true, true, true, true, true, true, true, true, true, true, true, true, true, true, true, true, true, true, true, true, true, true, true, true, true, true, true, true, false, false, false, false, false] rfl rfl (by kernel_rfl) (fun _ _ _ h => h) (Or.inl ⟨by rfl, ?_⟩) ?_ ?_
          rotate_left
          · intro w'
            go_simp
            with_reducible rfl
          rotate_left
          · exact put_
          refine pure_ (i := 43) (N := some 123) (v := ?_) (a' := ?_) #[true, true, true, true, true, true, true, true, true, true, true, true, true, true, true, true, true, true, true, true, true, true, true, true, true, true, true, true, true, true, true, true, true, true, true, true, true, true, true, true, true, true, true, true, false, false, false, false] rfl rfl (by kernel_rfl) (fun _ _ _ h => h) (Or.inl ⟨by rfl, ?_⟩) ?_ ?_
          rotate_left
          · intro w'
            go_simp
            with_reducible rfl
          rotate_left
          · exact put_
          refine pure_ (i := 44) (N := some 124) (v := ?_) (a' := ?_) #[true, true, true, true, true, true, true, true, true, true, true, true, true, true, true, true, true, true, true, true, true, true, true, true, true, true, true, true, true, true, true, true, true, true, true, true, true, true, true, true, true, true, true, true, true, false, false, false] rfl rfl (by kernel_rfl) (fun _ _ _ h => h) (Or.inl ⟨by rfl, ?_⟩) ?_ ?_
          rotate_left
          · intro w'
            go_simp
            with_reducible rfl
          rotate_left
          · exact put_
          refine one_ (i := 45) (N := some 125) #[true, true, true, true, true, true, true, true, true, true, true, true, true, true, true, true, true, true, true, true, true, true, true, true, true, true, true, true, true, true, true, true, true, true, true, true, true, true, true, true, true, true, true, true, true, true, false, false] rfl rfl (by kernel_rfl) (by decide) (fun K hK => ?_)
          refine goes_ Try.func11 (by kernel_rfl) rfl #[] (by rfl) rfl rfl (by simp only [List.map_toArray, List.map_nil]) ?_
          with_reducible refine (counterfoillaw15_awake.calls k true _ HA.out).mono ?_
          rintro e wz ⟨rfl, hbz⟩
          refine ⟨_, rfl, ?_⟩
          have HE6 := Aside0.mk (HE5.out.below hbz)
          have HE6B := Aside0.mk hbz
          clear hbz
          refine hK.out _ _ ⟨((HE6.out.cell 13).trans rfl), ((HE6.out.cell 12).trans rfl), ((HE6.out.cell 14).trans rfl), ((HE6.out.cell 11).trans rfl), ((HE6.out.cell 3).trans rfl), ((HE6.out.cell 8).trans rfl)⟩ (fun hHeld => ?_)
          clear hK K
          refine norm_ (a' := ?_) ?_ ?_
          rotate_left
          · show Act.put _ (some 125) _ = _
            exact put_
          refine pure_ (i := 46) (N := some 126) (v := ?_) (a' := ?_) #[true, true, true, true, true, true, true, true, true, true, true, true, true, true, true, true, true, true, true, true, true, true, true, true, true, true, true, true, true, true, true, true, true, true, true, true, true, true, true, true, true, true, true, true, true, true, true, false] rfl rfl (by kernel_rfl) (fun _ _ _ h => h) (Or.inl ⟨by rfl, ?_⟩) ?_ ?_
          rotate_left
          · intro w'
            go_simp
            with_reducible rfl
          rotate_left
          · exact put_
          refine pure_ (i := 47) (N := some 2) (v := ?_) (a' := ?_) #[true, true, true, true, true, true, true, true, true, true, true, true, true, true, true, true, true, true, true, true, true, true, true, true, true, true, true, true, true, true, true, true, true, true, true, true, true, true, true, true, true, true, true, true, true, true, true, true] rfl rfl (by kernel_rfl) (fun _ _ _ h => h) (Or.inl ⟨by rfl, ?_⟩) ?_ ?_
          rotate_left
          · intro w'
            go_simp
            with_reducible rfl
          rotate_left
          · exact put_
          refine done_ (by kernel_rfl) ?_
          have HW6 := Aside0.mk (below_step (below_step (below_step HW3.out HE4B.out) HE5B.out) HE6B.out)
          go_wp2
          go_ret
          exact ⟨rfl, HW6.out⟩
        · rw [if_neg hg] at hF; cases hF
end Go.Proofs.Ytgfmdfgibkkfaaa.P
