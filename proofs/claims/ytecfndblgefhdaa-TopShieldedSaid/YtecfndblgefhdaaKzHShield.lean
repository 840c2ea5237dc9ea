import Derived.Test.YtecfndblgefhdaaKzShieldS
import Derived.Test.YtecfndblgefhdaaKzSentP
import Derived.Test.YtecfndblgefhdaaKzStored
set_option linter.unusedVariables false
set_option linter.unusedSimpArgs false
namespace Go.Proofs.Ytecfndblgefhdaa.Law
open Go.RowKit Go.Proofs.Ytecfndblgefhdaa.R Go.Proofs.Ytecfndblgefhdaa.Sort Go.Proofs.YtecfndblgefhdaaW.PrintWords Go.Proofs.YtecfndblgefhdaaW.PrintLast Go.Proofs.YtecfndblgefhdaaW.PrintMore
attribute [local go_sem] max2_int min2_int max_two min_two max_three min_three max_four min_four
theorem apply_any_ {A0 : Option Addr} {c0 : Nat} {vs : List Vo} {A1 : Option Addr} {c1 : Nat} {ws : List Wr} {w : World} (hr0 : Kd.C k137 w A0 vs.length vs) (hc0 : vs.length ≤ c0) (hr1 : Kd.C k120 w A1 ws.length ws) (hc1 : ws.length ≤ c1) (hv : right vs = true) :
  Calls Try.prog 16 #[.slice A0 vs.length c0, .slice A1 ws.length c1] w fun e w' => ∃ (A : Option Addr) (m c : Nat) (n : Int), e = .returned (.tuple #[.slice A m c, .int .i64 n]) ∧ Aside0 (n = 0 ∧ okWs vs ws ∧ Rn k137 w w' (.slice A m c) (app vs ws) ∨ n ≠ 0) ∧ Below w.heap.size w w' := by
 by_cases ho : okWs vs ws
 ·refine (apply_sem hr0 hc0 hr1 hc1 hv ho).mono ?_
  rintro e w' ⟨v, rfl, hR, hb⟩
  obtain ⟨A, c, rfl, h1, h2⟩ := hR
  exact ⟨A, _, c, 0, rfl, ⟨.inl ⟨rfl, ho, A, c, rfl, h1, h2⟩⟩, hb⟩
 ·refine (apply_sem_bad hr0 hc0 hr1 hc1 hv ho).mono ?_
  rintro e w' ⟨A, c, n, rfl, hn, hb⟩
  exact ⟨A, 0, c, n, rfl, ⟨.inr hn⟩, hb⟩
def Made (w0 W : World) (vs : List Vo) (j : Nat) (v9 v10 : Value) : Prop :=
 ∃ (A : Option Addr) (c : Nat) (all : List Wr), v9 = .slice A (app vs all).length c ∧ (app vs all).length ≤ c ∧ Kd.F k137 W (fun k => True ∧ some k ≠ v10.ownBlock) A (app vs all).length (app vs all) ∧ Kd.R k120 120 W w0.heap.size (fun _ => True) v10 all ∧ okWs vs all ∧ all.length ≤ 20 * j ∧ Below w0.heap.size w0 W
def Parts (w0 W : World) (vs : List Vo) (P : List Wr) (i : Nat) (A18 : Option Addr) (c18 : Nat) (A19 : Option Addr) (c19 : Nat) : Prop :=
 (app vs (P.take i)).length ≤ c18 ∧ Kd.C k137 W A18 (app vs (P.take i)).length (app vs (P.take i)) ∧ (pick vs (mks (P.take i))).length ≤ c19 ∧ Kd.C k120 W A19 (pick vs (mks (P.take i))).length (pick vs (mks (P.take i))) ∧ Below w0.heap.size w0 W
theorem wrap_add (i pt : Nat) (hi : i ≤ 140) (hp : pt ≤ 9) : wrap64 ((i : Int) + (pt : Int)) = ((i + pt : Nat) : Int) := by
 rw [wr z7_ z7_]; omega
theorem less_left {n : Nat} (i pt : Nat) (hi : i ≤ 140) (hin : i < n) (hn : n ≤ 128) (hp : 1 ≤ pt ∧ pt ≤ 9) : (140 - intOf (.int .i64 (wrap64 ((i : Int) + (pt : Int))))).toNat < (140 - intOf (.int .i64 (i : Int))).toNat := by
 rw [wrap_add i pt hi hp.2]
 show (140 - ((i + pt : Nat) : Int)).toNat < (140 - (i : Int)).toNat
 omega
theorem part_cut (P : List Wr) (i pt : Nat) (A16 : Option Addr) (c16 : Nat) (W0 : World) (hC : Kd.C k120 W0 A16 P.length P) (hc : P.length ≤ c16) (hi : i < P.length) (hpl : P.length ≤ 128) (hp : 1 ≤ pt ∧ pt ≤ 9) :
  ∃ (Y : List Wr) (e : Nat) (AY : Option Addr) (cY : Nat), (if wrap64 ((i : Int) + (pt : Int)) < (P.length : Int) then wrap64 ((i : Int) + (pt : Int)) else (P.length : Int)) = (e : Int) ∧ P.take (i + pt) = P.take i ++ Y ∧ (∀ W : World, (Instr.slice 49 (.slice A16 P.length c16) (some (.int .i64 (i : Int))) (some (.int .i64 (e : Int))) none).run Try.prog W = .ok (.slice AY Y.length cY) W) ∧ Y.length ≤ cY ∧ Kd.C k120 W0 AY Y.length Y := by
 obtain ⟨e, he⟩ : ∃ e : Nat, e = if i + pt < P.length then i + pt else P.length := ⟨_, rfl⟩
 have hie : i ≤ e ∧ e ≤ P.length := by rw [he]; split <;> omega
 have hte : P.take e = P.take (i + pt) := by
  rw [he]
  split
  ·rfl
  ·rw [List.take_of_length_le (Nat.le_refl _), List.take_of_length_le z7_]
 have hXY : P.take (i + pt) = P.take i ++ (P.take e).drop i := by
  rw [← hte]
  have := (List.take_append_drop i (P.take e)).symm
  rwa [List.take_take, Nat.min_eq_left hie.1] at this
 have hl : ((P.take e).drop i).length = e - i := by rw [List.length_drop, List.length_take, Nat.min_eq_left hie.2]
 obtain ⟨ti, hti, hts⟩ : ∃ ti, Try.prog.info? 120 = some ti ∧ ti.size = 3 := by
  have h := info120
  obtain ⟨ti, h1, h2⟩ := Option.map_eq_some_iff.1 h
  exact ⟨ti, h1, congrArg (fun x => x.2.1) h2⟩
 have h1 := cut_mid (P := Try.prog) 49 120 .i64 .i64 Try.underlying49 hti 3 hts A16 P.length c16 (i : Int) (e : Int) z7_ z7_ z7_ hc
 have h2 := Kd.C_mid (k := k120) (lo := i) (hi := e) (c := c16) hC hie.1 hie.2 hc
 simp only [Int.toNat_natCast] at h1
 refine ⟨(P.take e).drop i, e, _, c16 - i, ?_, hXY, fun W => ?_, by rw [hl]; omega, h2⟩
 ·rw [wrap_add i pt z7_ hp.2, he]
  by_cases c : i + pt < P.length
  ·rw [if_pos c, if_pos z7_]
  ·rw [if_neg c, if_neg z7_]
 ·rw [hl]
  exact h1 W
set_option maxHeartbeats 8000000 in
set_option maxRecDepth 100000 in
theorem shield.calls (A0 : Option Addr) (c0 : Nat) (vs : List Vo) (A1 : Option Addr) (c1 : Nat) (l : List (List Wr)) (A2 : Option Addr) (c2 : Nat) (ms : List Mk) (part : Int) (w : World) (hr0 : Kd.C k137 w A0 vs.length vs) (hc0 : vs.length ≤ c0) (hr1 : Kd.C (Kd.slice 120 k120) w A1 l.length l) (hc1 : l.length ≤ c1) (hr2 : Kd.C k141 w A2 ms.length ms) (hc2 : ms.length ≤ c2) :
  Calls Try.prog 5 #[.slice A0 vs.length c0, .slice A1 l.length c1, .slice A2 ms.length c2, .int .i64 part] w fun e w' => e = .returned (.bool true) ∧ Below w.heap.size w w' := by
 have HR0 := a0_ hr0
 have HC0 := a0_ hc0
 have HR1 := a0_ hr1
 have HC1 := a0_ hc1
 have HR2 := a0_ hr2
 have HC2 := a0_ hc2
 have HB := a0_ (Below.refl w.heap.size w)
 clear hr0 hc0 hr1 hc1 hr2 hc2
 have eg0 : ∀ args w, (callFunc 12 args).run Try.prog w = .ok (.enter 12 args) w := enters_of Try.func12 z6_ rfl
 have eg1 : ∀ args w, (callFunc 14 args).run Try.prog w = .ok (.enter 14 args) w := enters_of Try.func14 z6_ rfl
 have eg2 : ∀ args w, (callFunc 16 args).run Try.prog w = .ok (.enter 16 args) w := enters_of Try.func16 z6_ rfl
 have eg3 : ∀ args w, (callFunc 24 args).run Try.prog w = .ok (.enter 24 args) w := enters_of Try.func24 z6_ rfl
 have eg4 : ∀ args w, (callFunc 25 args).run Try.prog w = .ok (.enter 25 args) w := enters_of Try.func25 z6_ rfl
 have eg5 : ∀ args w, (callFunc 26 args).run Try.prog w = .ok (.enter 26 args) w := enters_of Try.func26 z6_ rfl
 have eg6 : ∀ args w, (callFunc 27 args).run Try.prog w = .ok (.enter 27 args) w := enters_of Try.func27 z6_ rfl
 have eg7 : ∀ args w, (callFunc 22 args).run Try.prog w = .ok (.enter 22 args) w := enters_of Try.func22 z6_ rfl
 by_cases hs : smallB vs l 20 = false
 ·have HS := a0_ hs
  clear hs
  go_enter Try.func5, Try.ntmps5
  go_wp2_with (first | (go_at_fn 12; refine (small_sem A0 c0 vs A1 c1 l 20 z8_ _ (Kd.C_below HR0.out HB.out) HC0.out (Kd.C_below HR1.out HB.out) HC1.out).mono ?_; rintro e ws ⟨he, hb⟩; rw [HS.out] at he; subst he; replace HB := a0_ (below_step HB.out hb); clear hb) | (go_at_fn 14; refine (stored.calls _).mono ?_; rintro e wz ⟨rfl, hb⟩; replace HB := a0_ (below_step HB.out hb); clear hb))
  go_ret
  exact ⟨rfl, HB.out⟩
 have HS := a0_ ((Bool.not_eq_false _).mp hs)
 clear hs
 by_cases hm : 200 < ms.length
 ·have hmz : (ms.length : Int) > 200 := by omega
  go_enter Try.func5, Try.ntmps5
  go_wp2_with (first | (go_at_fn 12; refine (small_sem A0 c0 vs A1 c1 l 20 z8_ _ (Kd.C_below HR0.out HB.out) HC0.out (Kd.C_below HR1.out HB.out) HC1.out).mono ?_; rintro e ws ⟨he, hb⟩; rw [HS.out] at he; subst he; replace HB := a0_ (below_step HB.out hb); clear hb) | (go_at_fn 14; refine (stored.calls _).mono ?_; rintro e wz ⟨rfl, hb⟩; replace HB := a0_ (below_step HB.out hb); clear hb))
  go_ret
  exact ⟨rfl, HB.out⟩
 have hmz : ¬ (ms.length : Int) > 200 := by omega
 have HM := a0_ hm
 clear hm
 go_enter Try.func5, Try.ntmps5
 go_upto_region 3 with (go_at_fn 12; refine (small_sem A0 c0 vs A1 c1 l 20 z8_ _ (Kd.C_below HR0.out HB.out) HC0.out (Kd.C_below HR1.out HB.out) HC1.out).mono ?_; rintro e ws ⟨he, hb⟩; rw [HS.out] at he; subst he; replace HB := a0_ (below_step HB.out hb); clear hb)
 have HV : Aside0 (right vs = true) := ⟨by have h := HS.out; unfold smallB at h; rw [Bool.and_eq_true] at h; exact h.1⟩
 have HD : Aside0 (Made w ws vs 0 (.slice A0 vs.length c0) (.slice none 0 0)) := ⟨A0, c0, [], rfl, HC0.out, Kd.F_mono (Kd.F_below (Kd.C_F k137_heap HR0.out) HB.out) (fun k hk => ⟨trivial, fun h => by cases h⟩), Kd.R_nil _ _ _ _ _, fun x hx => (by cases hx), Nat.zero_le _, HB.out⟩
 clear HB
 go_wp2
 go_loopw [9, 10, 11, 12, 13] (fun v9 v10 v11 v12 v13 wr => ∃ (j : Nat), v11 = .int .i64 j ∧ j ≤ l.length ∧ j ≤ 20 ∧ Aside0 (Made w wr vs j v9 v10)) (fun _ _ v11 _ _ _ => 20 - (intOf v11).toNat)
 case atStart => exact ⟨0, rfl, Nat.zero_le _, z7_, HD⟩
 case round =>
  as_aux_lemma =>
   clear HD
   obtain ⟨j, rfl, hjl, hj20, HD⟩ := hrel
   by_cases hin : j < l.length ∧ j < 20
   ·obtain ⟨hj1, hj2⟩ := hin
    obtain ⟨A9, c9, all, e9, hc9, hC9, hR10, hok, hal, hbw⟩ := HD.out
    clear HD
    subst e9
    have HA9 := a0_ hC9
    have HL9 := a0_ hc9
    have HA10 := a0_ hR10
    have HOA := a0_ hok
    have HAL := a0_ hal
    have HB := a0_ hbw
    obtain ⟨ad, A18, c18, eA, z18, hc18, hC18⟩ := at_L6 HR1.out (j : Int) z7_ z7_
    subst eA
    have hrd : rd_L6 l (j : Int) = l[j] := by
     unfold rd_L6
     rw [Int.toNat_natCast, List.getD_eq_getElem?_getD, List.getElem?_eq_getElem hj1]
     rfl
    rw [hrd] at z18 hc18 hC18
    rw [Int.toNat_natCast] at z18
    have HWS : Aside0 (l[j].length ≤ 20) := ⟨by
     have h := HS.out
     unfold smallB at h
     rw [Bool.and_eq_true, List.all_eq_true] at h
     have h2 := h.2 l[j] (List.mem_iff_getElem.2 ⟨j, z145_, by rw [List.getElem_take]⟩)
     exact of_decide_eq_true h2⟩
    generalize l[j] = wss at z18 hc18 hC18 HWS
    have HC18 := a0_ hC18
    have HZ18 := a0_ z18
    replace z18 := (hbw.cell (World.block_lt_of_cell? w _ z18)).trans z18
    have HL18 := a0_ hc18
    have HRR := a0_ (right_app hok HV.out)
    have hjz1 : (j : Int) < (l.length : Int) := by omega
    have hjz2 : (j : Int) < 20 := by omega
    clear hC9 hc9 hR10 hok hal hbw hrd hC18 hc18
    go_upto_region 9 with (go_at_fn 16; refine (apply_any_ (Kd.F_now HA9.out) HL9.out (Kd.C_below HC18.out HB.out) HL18.out HRR.out).mono ?_; rintro e wa ⟨A19, m19, c19, n19, rfl, HE, hb⟩; replace HA9 := a0_ (Kd.F_below HA9.out hb); have HLT := a0_ (Kd.R_lt HA10.out); replace HA10 := a0_ (Kd.R_below HA10.out hb); have HBa := a0_ (below_step HB.out hb); clear hb z18)
    have z18 := (HBa.out.cell (World.block_lt_of_cell? w _ HZ18.out)).trans HZ18.out
    rcases HE.out with ⟨rfl, ho, hR⟩ | hn19
    ·obtain ⟨An, cn, en, hcn, hCn⟩ := hR
     injection en with e1 e2 e3
     subst e1
     subst e3
     have HN := a0_ (Kd.F_mono (ok' := fun k => True ∧ some k ≠ u10.ownBlock) hCn (fun k hk => ⟨trivial, fun h => by have := HLT.out k h.symm; omega⟩))
     have HNL := a0_ hcn
     have HNM := a0_ e2
     have HOK := a0_ (okWs_shape (shape_app all vs) ho)
     clear HE ho hcn hCn e2
     go_wp2_with ((with_reducible refine gate_builtin (b := .append) (xs := #[.tmp 61, .tmp 65]) rfl ?_); at_builtin; refine Kd.R_append_rows k120 (Rr := k120.K wa) (w0 := w) w.heap.size rfl (.tmp 61) (.tmp 65) 49 120 (.agg #[.int .i64 0, .int .i64 0, .string ⟨#[]⟩]) 32 rfl Try.underlying49 info120 rfl z8_ z7_ _ all wss _ _ _ (fun _ => True) (fun _ => False) rfl rfl HA10.out (Kd.C_below HC18.out HBa.out) (fun x cs h => z75_) (fun _ h => h.elim) (fun _ _ => trivial) HBa.out (below_size HBa.out) (by have := HAL.out; have := HWS.out; omega) ?_; intro v7 w7 ho7 hb7 hg_ hat_; have HO7 := a0_ ho7; have HB7 := a0_ hb7; have HG7 := a0_ (And.intro hg_ hat_); clear ho7 hb7 hg_ hat_)
     go_roundw
     case measure => simp [intOf]; omega
     case rel => exact ⟨j + 1, z9_, z7_, z7_, ⟨A19, c19, all ++ wss, by rw [app_append, ← HNM.out], by rw [app_append]; exact HNL.out, by rw [app_append]; exact Kd.F_after HN.out HG7.out.1 HG7.out.2, HO7.out, fun x hx => (List.mem_append.1 hx).elim (HOA.out x) (HOK.out x), by rw [List.length_append]; have := HAL.out; have := HWS.out; omega, HB7.out⟩⟩
    ·have HN := a0_ hn19
     have hb19 : (n19 == 0) = false := beq_eq_false_iff_ne.2 HN.out
     clear HE hn19
     go_wp2
     go_roundw
     case measure => simp [intOf]; omega
     case rel => exact ⟨j + 1, z9_, z7_, z7_, ⟨A9, c9, all, rfl, HL9.out, HA9.out, HA10.out, HOA.out, by have := HAL.out; omega, HBa.out⟩⟩
   ·obtain ⟨A9, c9, all, e9, hc9, hC9, hR10, hok, hal, hbw⟩ := HD.out
    clear HD
    subst e9
    have HA9 := a0_ hC9
    have HL9 := a0_ hc9
    have HA10 := a0_ hR10
    have HOA := a0_ hok
    have HAL : Aside0 (all.length ≤ 400) := ⟨z7_⟩
    have HB := a0_ hbw
    have HRR := a0_ (right_app hok HV.out)
    clear hC9 hc9 hR10 hok hal hbw
    go_upto_region 6 with (fail)
    go_cut [46] (fun v46 wc => v46 = .bool false ∧ wc = wr)
    case first =>
     as_aux_lemma =>
      by_cases hj1 : j < l.length
      ·have hj2 : ¬ (j : Int) < 20 := by omega
       have hjz1 : (j : Int) < (l.length : Int) := by omega
       go_wp2
       go_meet
       case rel => exact ⟨rfl, rfl⟩
      ·have hjz1 : ¬ (j : Int) < (l.length : Int) := by omega
       go_wp2
       go_meet
       case rel => exact ⟨rfl, rfl⟩
    case rest =>
     as_aux_lemma =>
      obtain ⟨rfl, hwc⟩ := hcut
      subst hwc
      clear hin hjl hj20
      go_upto_region 13 with (go_at_fn 24; refine (pick_any_sem (Kd.F_now HA9.out) HL9.out (Kd.C_below HR2.out HB.out) HC2.out HRR.out (by have := HM.out; omega)).mono ?_; rintro e w1 ⟨A14, m14, c14, n15, rfl, HE, hb⟩; replace HA9 := a0_ (Kd.F_below HA9.out hb); replace HA10 := a0_ (Kd.R_below HA10.out hb); replace HB := a0_ (below_step HB.out hb); clear hb)
      go_cut [74] (fun v74 wc => v74 = .bool (n15 != 0) ∧ wc = w1)
      case first =>
       as_aux_lemma =>
        go_wp2
        go_meet
        case rel => exact ⟨rfl, rfl⟩
      case rest =>
       as_aux_lemma =>
        obtain ⟨rfl, hwc⟩ := hcut
        subst hwc
        go_upto_if 74 with (fail)
        go_cut [14] (fun v14 wd => wd = wc ∧ ∃ A c more, v14 = .slice A (List.length more) c ∧ Aside0 (List.length more ≤ c ∧ Kd.C k120 wc A (List.length more) more ∧ okWs vs more ∧ List.length more ≤ 200))
        case first =>
         as_aux_lemma =>
          rcases HE.out with ⟨rfl, ho, hR⟩ | hn15
          ·obtain ⟨An, cn, en, hcn, hCn⟩ := hR
           injection en with e1 e2 e3
           subst e1
           subst e3
           have HX := a0_ (And.intro hcn (And.intro hCn (And.intro (okWs_shape (shape_app all vs) (okWs_pick HRR.out ho)) (by rw [pick_length]; have := HM.out; omega : (pick (app vs all) ms).length ≤ 200))))
           clear HE ho hcn hCn
           subst e2
           go_wp2
           go_meet
           case rel => exact ⟨rfl, _, _, _, rfl, HX⟩
          ·have hb15 : (n15 != 0) = true := by simpa using hn15
           clear HE hn15
           go_wp2
           go_meet
           case rel => exact ⟨rfl, none, 0, [], rfl, ⟨Nat.le_refl _, C_empty _ _ _, fun x hx => (by cases hx), Nat.zero_le _⟩⟩
        case rest =>
         as_aux_lemma =>
          clear HE
          obtain ⟨rfl, A14, c14, more, rfl, HX⟩ := hcut
          go_upto_region 16 with (first | ((with_reducible refine gate_builtin (b := .append) (xs := #[.tmp 77, .tmp 78]) rfl ?_); at_builtin; refine Kd.R_append_rows k120 (Rr := k120.K wc) (w0 := w) w.heap.size rfl (.tmp 77) (.tmp 78) 49 120 (.agg #[.int .i64 0, .int .i64 0, .string ⟨#[]⟩]) 32 rfl Try.underlying49 info120 rfl z8_ z7_ _ all more _ _ _ (fun _ => True) (fun _ => False) rfl rfl HA10.out HX.out.2.1 (fun x cs h => z75_) (fun _ h => h.elim) (fun _ _ => trivial) HB.out (below_size HB.out) (by have := HAL.out; have := HX.out.2.2.2; omega) ?_; intro v7 w7 ho7 hb7 hg_ hat_; generalize hX : all ++ more = X at ho7; have HXE := a0_ hX; obtain ⟨A7, c7, rfl, hc7, hC7⟩ := Kd.R_reads ho7; have HC7 := a0_ hC7; have HL7 := a0_ hc7; have HXL : Aside0 (X.length ≤ 600) := ⟨by rw [← hX, List.length_append]; have := HAL.out; have := HX.out.2.2.2; omega⟩; have HOX : Aside0 (okWs vs X) := ⟨fun x hx => by rw [← hX] at hx; exact (List.mem_append.1 hx).elim (HOA.out x) (HX.out.2.2.1 x)⟩; replace HA9 := a0_ (Kd.F_now (Kd.F_after HA9.out hg_ hat_)); replace HB := a0_ hb7; clear ho7 hb7 hg_ hat_ hX hC7 hc7) | (go_at_fn 25; refine (marks_sem HC7.out HL7.out (by have := HXL.out; omega)).mono ?_; rintro e w2 ⟨A8, c8, Y, rfl, hf, hy, hc8, hC8, hb⟩; have HF := a0_ hf; have HYL := a0_ hy; have HL8 := a0_ hc8; have HC8 := a0_ hC8; replace HA9 := a0_ (Kd.C_below HA9.out hb); replace HB := a0_ (below_step HB.out hb); clear hb hf hy hc8 hC8) | (go_at_fn 24; refine (pick_sem HA9.out HL9.out HC8.out HL8.out HRR.out (by rw [mks_length]; have := HXL.out; have := HYL.out; omega) (okMs_mks (okWs_shape (shape_app all vs).symm (HF.out.ok HOX.out)))).mono ?_; rintro e w3 ⟨A16, c16, rfl, hc16, hC16, hb⟩; have HL16 := a0_ hc16; have HC16 := a0_ hC16; replace HA9 := a0_ (Kd.C_below HA9.out hb); replace HB := a0_ (below_step HB.out hb); clear hb hc16 hC16))
          have HSP := a0_ (SSrt.mks (mks_pick (app vs all) (mks Y)).symm HF.out.1)
          have HOP := a0_ (okWs_shape (shape_app all vs) (okWs_pick HRR.out (okMs_mks (okWs_shape (shape_app all vs).symm (HF.out.ok HOX.out)))))
          have HPA : Aside0 (app vs (pick (app vs all) (mks Y)) = app vs all) := ⟨app_parts HV.out HOA.out HX.out.2.2.1 (by rw [HXE.out]; exact HF.out)⟩
          generalize pick (app vs all) (mks Y) = P at HSP HOP HPA HL16 HC16 ⊢
          have HPL := a0_ (SSrt.length HV.out HSP.out HOP.out)
          clear HF HYL HL8 HC8 HXL HOX HXE HC7 HL7 HA10 HX
          obtain ⟨pt, hpt, hp1, hp9⟩ : ∃ pt : Nat, wrap64 (1 + wrap64 ((IntKind.u64.wrap part).tmod 9)) = (pt : Int) ∧ 1 ≤ pt ∧ pt ≤ 9 := by
           have h0 : 0 ≤ IntKind.u64.wrap part ∧ IntKind.u64.wrap part < 18446744073709551616 := by
            have := Int.emod_nonneg part (show (18446744073709551616 : Int) ≠ 0 from z8_)
            have := Int.emod_lt_of_pos part (show (0 : Int) < 18446744073709551616 from z8_)
            have : IntKind.u64.wrap part = part % 18446744073709551616 := rfl
            omega
           have h1 := Int.emod_nonneg (IntKind.u64.wrap part) (show (9 : Int) ≠ 0 from z8_)
           have h2 := Int.emod_lt_of_pos (IntKind.u64.wrap part) (show (0 : Int) < 9 from z8_)
           rw [Int.tmod_eq_emod_of_nonneg h0.1]
           generalize (IntKind.u64.wrap part) % 9 = m at h1 h2
           rw [wr (n := m) z7_ z7_, wr z7_ z7_]
           exact ⟨(1 + m).toNat, z7_, z7_, z7_⟩
          have HP9 := a0_ (And.intro hp1 hp9)
          go_upto_region 19 with (fail)
          rw [hpt]
          clear hpt hp1 hp9
          have HS0 : Aside0 (Parts w3 w3 vs P 0 A0 c0 none 0) := ⟨HC0.out, Kd.C_below HR0.out HB.out, Nat.le_refl _, C_empty _ _ _, Below.refl _ _⟩
          go_wp2
          go_loopw [18, 19, 20, 21, 22, 23, 24, 25, 26, 27] (fun v18 v19 v20 v21 v22 v23 v24 v25 v26 v27 wv => ∃ (i : Nat) (A18 : Option Addr) (c18 : Nat) (A19 : Option Addr) (c19 : Nat), v18 = .slice A18 (app vs (P.take i)).length c18 ∧ v19 = .slice A19 (pick vs (mks (P.take i))).length c19 ∧ v20 = .int .i64 i ∧ i ≤ 140 ∧ Aside0 (Parts w3 wv vs P i A18 c18 A19 c19)) (fun _ _ v20 _ _ _ _ _ _ _ _ => (140 - intOf v20).toNat)
          case atStart => exact ⟨0, A0, c0, none, 0, rfl, rfl, rfl, z7_, HS0⟩
          case round =>
           as_aux_lemma =>
            clear HS0
            obtain ⟨i, A18, c18, A19, c19, rfl, rfl, rfl, hi140, HS1⟩ := hrel
            by_cases hin : i < P.length
            ·obtain ⟨h18, hC18, h19, hC19, hbl⟩ := HS1.out
             clear HS1
             have H18 := a0_ h18
             have HC18 := a0_ hC18
             have H19 := a0_ h19
             have HC19 := a0_ hC19
             have HBL := a0_ hbl
             have hiz : (i : Int) < (P.length : Int) := by omega
             obtain ⟨Y, e, AY, cY, hmin, hXY, hcutz, hYL, hYC⟩ := part_cut P i pt A16 c16 wr (Kd.C_below HC16.out hbl) HL16.out hin HPL.out HP9.out
             have HXY := a0_ hXY
             have HYL := a0_ hYL
             have HYC := a0_ hYC
             clear hXY hYL hYC h18 hC18 h19 hC19 hbl
             have HSX : Aside0 (SSrt (P.take i ++ Y)) := ⟨by rw [← HXY.out]; exact SSrt.sub HSP.out (List.take_sublist _ _)⟩
             have HOX : Aside0 (okWs vs (P.take i ++ Y)) := ⟨by rw [← HXY.out]; exact fun x hx => HOP.out x (List.mem_of_mem_take hx)⟩
             have HOI : Aside0 (okWs vs (P.take i)) := ⟨fun x hx => HOP.out x (List.mem_of_mem_take hx)⟩
             go_upto_region 25 with (fail)
             clear hcutz hmin
             as_aux_lemma =>
              go_upto_region 26 with (go_at_fn 26; refine (note_sem HV.out HSX.out HOX.out HC19.out H19.out HC18.out H18.out HYC.out HYL.out).mono ?_; rintro e w4 ⟨A22, c22, rfl, h22, hC22, hb⟩; have H22 := a0_ h22; have HC22 := a0_ hC22; replace HC18 := a0_ (Kd.C_below HC18.out hb); replace HYC := a0_ (Kd.C_below HYC.out hb); replace HBL := a0_ (below_step HBL.out hb); clear h22 hC22 hb)
              as_aux_lemma =>
               go_upto_region 27 with (go_at_fn 16; refine (apply_sem HC18.out H18.out HYC.out HYL.out (right_app HOI.out HV.out) (okWs_shape (shape_app _ vs).symm (fun x hx => HOX.out x (List.mem_append_right _ hx)))).mono ?_; rintro e w5 ⟨v24, rfl, hR, hb⟩; rw [← app_append] at hR; obtain ⟨A24, c24, rfl, h24, hF24⟩ := hR; have H24 := a0_ h24; have HC24 := a0_ (Kd.F_now hF24); replace HC22 := a0_ (Kd.C_below HC22.out hb); replace HBL := a0_ (below_step HBL.out hb); clear h24 hF24 hb)
               as_aux_lemma =>
                go_upto_region 30 with (fail)
                as_aux_lemma =>
                 go_upto_region 31 with (go_at_fn 27; refine (back_sem HV.out HSX.out HOX.out HC22.out H22.out HC24.out H24.out).mono ?_; rintro e w6 ⟨A26, c26, rfl, h26, hC26, hb⟩; have H26 := a0_ h26; have HC26 := a0_ hC26; replace HC22 := a0_ (Kd.C_below HC22.out hb); replace HC24 := a0_ (Kd.C_below HC24.out hb); replace HBL := a0_ (below_step HBL.out hb); clear h26 hC26 hb)
                 as_aux_lemma =>
                  go_wp2_with (go_at_fn 22; refine (same_sem HC26.out H26.out (Kd.C_below HR0.out (below_step HB.out HBL.out)) HC0.out HV.out).mono ?_; rintro e w7 ⟨rfl, hb⟩; replace HC22 := a0_ (Kd.C_below HC22.out hb); replace HC24 := a0_ (Kd.C_below HC24.out hb); replace HBL := a0_ (below_step HBL.out hb); clear hb)
                  go_roundw
                  case measure => exact less_left i pt hi140 hin HPL.out HP9.out
                  case rel => exact ⟨i + pt, A24, c24, A22, c22, by rw [HXY.out], by rw [HXY.out], by rw [wrap_add i pt hi140 HP9.out.2], by have := HP9.out; have := HPL.out; omega, ⟨by rw [HXY.out]; exact H24.out, by rw [HXY.out]; exact HC24.out, by rw [HXY.out]; exact H22.out, by rw [HXY.out]; exact HC22.out, HBL.out⟩⟩
            ·skip
             as_aux_lemma =>
              have ht : P.take i = P := List.take_of_length_le z7_
              have hiz : ¬ (i : Int) < (P.length : Int) := by omega
              rw [ht, HPA.out]
              obtain ⟨h18, hC18, h19, hC19, hbl⟩ := HS1.out
              rw [ht, HPA.out] at h18 hC18
              have H18 := a0_ h18
              have HC18 := a0_ hC18
              have HBL := a0_ hbl
              clear HS1 h18 hC18 h19 hC19 hbl ht
              go_wp2_with (first | (go_at_fn 22; refine (same_sem HC18.out H18.out (Kd.C_below HA9.out HBL.out) HL9.out HRR.out).mono ?_; rintro e w4 ⟨rfl, hb⟩; replace HB := a0_ (below_step (below_step HB.out HBL.out) hb); clear hb) | (go_at_fn 14; refine (stored.calls _).mono ?_; rintro e wz ⟨rfl, hb⟩; replace HB := a0_ (below_step HB.out hb); clear hb))
              go_ret
              exact ⟨rfl, HB.out⟩
end Go.Proofs.Ytecfndblgefhdaa.Law
