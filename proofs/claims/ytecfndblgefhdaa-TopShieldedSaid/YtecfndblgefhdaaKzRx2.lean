import Derived.Test.YtecfndblgefhdaaKzRx1
namespace Go.Proofs.Ytecfndblgefhdaa.R
open Go.RowKit Go.Proofs.YtecfndblgefhdaaW.PrintWords Go.Proofs.YtecfndblgefhdaaW.PrintLast Go.Proofs.YtecfndblgefhdaaW.PrintMore
attribute [local go_sem] max2_int min2_int max_two min_two max_three min_three max_four min_four
set_option linter.unusedVariables false
set_option linter.unusedSimpArgs false
def vols_at.go (vol block : Int) : List S137 → Nat → Except Int Nat
 | [], _ => .error 8
 | v :: r, i => if v.f0 = vol then (if block < 0 ∨ (v.f1.length : Int) ≤ block then .error 10 else .ok i) else vols_at.go vol block r (i + 1)
set_option maxHeartbeats 1000000 in
set_option maxRecDepth 100000 in
theorem vols_at.run (A0 : Option Addr) (c0 : Nat) (vs : List S137) (vol block : Int) (w : World) (hr0 : Kd.C k137 w A0 vs.length vs) :
  Calls Try.prog 50 #[.slice A0 vs.length c0, .int .i64 vol, .int .i64 block] w fun e w' => w' = w ∧ match vols_at.go vol block vs 0 with
   | .error c => e = .returned (.tuple #[.pointer none, .int .i64 c])
   | .ok i => ∃ ad A1 c1, A0 = some ad ∧ w.cell? ⟨(ad.add (i * 2)).block, (ad.add (i * 2)).off + 1, none⟩ = some (.slice (some A1) (rd_T137 vs i).f1.length c1) ∧ e = .returned (.tuple #[.pointer (some (A1.add block.toNat)), .int .i64 0]) := by
 have HR := a0_ hr0
 have hmax : vs.length ≤ 9223372036854775807 := hr0.2.1
 clear hr0
 generalize hres : vols_at.go vol block vs 0 = res
 have HRES := a0_ hres
 clear hres
 go_enter Try.func50, Try.ntmps50
 go_wp2
 go_loopw [8, 11] (fun v8 v11 w' => ∃ (i : Nat), i ≤ vs.length ∧ v11 = .int .i64 i ∧ Aside0 (vols_at.go vol block (vs.drop i) i = res) ∧ w' = w) (fun _ v11 _ => vs.length - (intOf v11).toNat)
 case atStart => exact ⟨0, Nat.zero_le _, rfl, HRES, rfl⟩
 case round =>
  obtain ⟨i, hi, rfl, H, rfl⟩ := hrel
  clear HRES
  by_cases hlt : i < vs.length
  ·have hs0 : 0 ≤ (i : Int) := by omega
   have hs1 : (i : Int) < (vs.length : Int) := by omega
   obtain ⟨ad, A1, c1, ead, hx0, hx1, hl1, hC1⟩ := at_T137 HR.out (i : Int) hs0 hs1
   cases ead
   have h := H.out
   rw [List.drop_eq_getElem_cons hlt] at h
   simp only [vols_at.go] at h
   have hrd : rd_T137 vs (i : Int) = vs[i] := by
    unfold rd_T137
    rw [Int.toNat_natCast, List.getD_eq_getElem?_getD, List.getElem?_eq_getElem hlt]
    rfl
   rw [← hrd] at h
   rw [Int.toNat_natCast] at hx0 hx1
   have HC1 := a0_ hC1
   have HX := a0_ hx1
   clear hrd H hC1
   by_cases c1 : (rd_T137 vs (i : Int)).f0 = vol
   ·rw [if_pos c1] at h
    by_cases c2 : block < 0 ∨ ((rd_T137 vs (i : Int)).f1.length : Int) ≤ block
    ·rw [if_pos c2] at h
     subst h
     rcases Int.lt_or_le block 0 with c3 | c3
     ·go_wp2
      go_ret2
      exact ⟨rfl, rfl⟩
     ·have c4 : ¬ block < 0 := by omega
      have c5 : block ≥ ((rd_T137 vs (i : Int)).f1.length : Int) := by omega
      clear c2
      go_wp2
      go_ret2
      exact ⟨rfl, rfl⟩
    ·rw [if_neg c2] at h
     subst h
     have c3 : 0 ≤ block := by omega
     have c4 : ¬ block < 0 := by omega
     have c5 : ¬ block ≥ ((rd_T137 vs (i : Int)).f1.length : Int) := by omega
     have c6 : block < ((rd_T137 vs (i : Int)).f1.length : Int) := by omega
     clear c2
     obtain ⟨a1, rfl⟩ : ∃ a1, A1 = some a1 := by
      obtain ⟨a1, h9, _⟩ := HC1.out.2.2 z7_
      exact ⟨a1, h9⟩
     go_wp2
     go_ret2
     exact ⟨rfl, rfl⟩
   ·rw [if_neg c1] at h
    have HH := a0_ h
    clear h
    go_wp2
    go_roundw
    case measure => simp [intOf]; omega
    case rel => exact ⟨i + 1, z7_, z9_, HH, trivial⟩
  ·obtain rfl : i = vs.length := by omega
   have h := H.out
   rw [List.drop_length] at h
   simp only [vols_at.go] at h
   subst h
   go_wp2
   go_ret2
   exact ⟨rfl, rfl⟩
theorem vols_at.go_ne {vol block c : Int} : ∀ {vs : List S137} {i : Nat}, vols_at.go vol block vs i = .error c → ¬ c = 0
 | [], i, h => by simp only [vols_at.go] at h; injection h with h; omega
 | v :: r, i, h => by
  simp only [vols_at.go] at h
  by_cases c1 : v.f0 = vol
  ·rw [if_pos c1] at h
   by_cases c2 : block < 0 ∨ (v.f1.length : Int) ≤ block
   ·rw [if_pos c2] at h; injection h with h; omega
   ·rw [if_neg c2] at h; cases h
  ·rw [if_neg c1] at h
   exact vols_at.go_ne h
theorem vols_at.runB (A0 : Option Addr) (c0 : Nat) (vs : List S137) (vol block : Int) (w0 w : World) (hr0 : Kd.C k137 w0 A0 vs.length vs) (hB : Below w0.heap.size w0 w) :
  Calls Try.prog 50 #[.slice A0 vs.length c0, .int .i64 vol, .int .i64 block] w fun e w' => w' = w ∧ Below w0.heap.size w0 w' ∧ match vols_at.go vol block vs 0 with
   | .error c => e = .returned (.tuple #[.pointer none, .int .i64 c])
   | .ok i => ∃ ad A1 c1, A0 = some ad ∧ w.cell? ⟨(ad.add (i * 2)).block, (ad.add (i * 2)).off + 1, none⟩ = some (.slice (some A1) (rd_T137 vs i).f1.length c1) ∧ e = .returned (.tuple #[.pointer (some (A1.add block.toNat)), .int .i64 0]) :=
 (vols_at.run A0 c0 vs vol block w (Kd.C_below hr0 hB)).mono fun e w' h => ⟨h.1, by rw [h.1]; exact hB, h.2⟩
theorem vols_at.go_ok {vol block : Int} : ∀ {vs : List S137} {i j : Nat}, vols_at.go vol block vs i = .ok j → i ≤ j ∧ j < i + vs.length ∧ ∀ d, 0 ≤ block ∧ block < ((vs.getD (j - i) d).f1.length : Int)
 | [], i, j, h => by simp only [vols_at.go] at h; cases h
 | v :: r, i, j, h => by
  simp only [vols_at.go] at h
  by_cases c1 : v.f0 = vol
  ·rw [if_pos c1] at h
   by_cases c2 : block < 0 ∨ (v.f1.length : Int) ≤ block
   ·rw [if_pos c2] at h; cases h
   ·rw [if_neg c2] at h
    injection h with h
    subst h
    refine ⟨Nat.le_refl _, by simp, fun d => ?_⟩
    rw [Nat.sub_self]
    simp only [List.getD_cons_zero]
    omega
  ·rw [if_neg c1] at h
   obtain ⟨h1, h2, h3⟩ := vols_at.go_ok h
   refine ⟨z7_, z29_, fun d => ?_⟩
   have := h3 d
   rw [show j - i = (j - (i + 1)) + 1 from z7_, List.getD_cons_succ]
   exact this
def vols_Check.go (vs : List S137) : List S120 → Int
 | [] => 0
 | x :: r => match vols_at.go x.f0 x.f1 vs 0 with
  | .error c => c
  | .ok _ => if (x.f2.size : Int) > 8 then 5 else vols_Check.go vs r
def vols_Check.f (k : Nat) (vs : List S137) (ws : List S120) : Option Int := (vols_Right.f k vs).bind fun b => some (if b = true then vols_Check.go vs ws else 1)
set_option maxHeartbeats 4000000 in
set_option maxRecDepth 100000 in
theorem vols_Check.calls (k : Nat) (A0 : Option Addr) (c0 : Nat) (l0 : List S137) (A1 : Option Addr) (c1 : Nat) (l1 : List S120) (r : Int) (w : World) (hr0 : Kd.C k137 w A0 l0.length l0) (hc0 : l0.length ≤ c0) (hr1 : Kd.C k120 w A1 l1.length l1) (hc1 : l1.length ≤ c1) (h : vols_Check.f k l0 l1 = some r) :
  Calls Try.prog 48 #[.slice A0 l0.length c0, .slice A1 l1.length c1] w fun e w' => e = .returned (.int .i64 r) ∧ Below w.heap.size w w' := by
 have HR0 := a0_ hr0
 have HR1 := a0_ hr1
 have HC0 := a0_ hc0
 have hmax : l1.length ≤ 9223372036854775807 := hr1.2.1
 clear hr0 hc0 hr1 hc1
 have HB := a0_ (Below.refl w.heap.size w)
 obtain ⟨b, hb, hr⟩ := Option.bind_eq_some_iff.1 h
 have hr := Option.some.inj hr
 have A2 := a0_ hb
 clear h hb
 have eg : ∀ args w, (callFunc 44 args).run Try.prog w = .ok (.enter 44 args) w := enters_of Try.func44 z6_ rfl
 have eg2 : ∀ args w, (callFunc 50 args).run Try.prog w = .ok (.enter 50 args) w := enters_of Try.func50 z6_ rfl
 go_enter Try.func48, Try.ntmps48
 cases b with
 | false =>
  rw [if_neg z8_] at hr
  subst hr
  go_wp2_with (go_at_fn 44; (refine (vols_Right.calls k _ _ l0 false _ HR0.out HC0.out A2.out).mono ?_); rintro e w4 ⟨rfl, hb⟩; have HB2 := a0_ (below_step HB.out hb); clear hb)
  go_ret
  exact ⟨rfl, HB2.out⟩
 | true =>
  rw [if_pos rfl] at hr
  have HRES := a0_ hr
  clear hr
  go_wp2_with (go_at_fn 44; (refine (vols_Right.calls k _ _ l0 true _ HR0.out HC0.out A2.out).mono ?_); rintro e w4 ⟨rfl, hb⟩; have HB2 := a0_ (below_step HB.out hb); clear hb)
  go_loopw [6, 7, 8, 14] (fun v6 v7 v8 v14 w' => ∃ (i : Nat), i ≤ l1.length ∧ v14 = .int .i64 i ∧ Aside0 (vols_Check.go l0 (l1.drop i) = r) ∧ Aside0 (Below w.heap.size w w')) (fun _ _ _ v14 _ => l1.length - (intOf v14).toNat)
  case atStart => exact ⟨0, Nat.zero_le _, rfl, HRES, HB2⟩
  case round =>
   obtain ⟨i, hi, rfl, H, HBw⟩ := hrel
   by_cases hlt : i < l1.length
   ·have hs0 : 0 ≤ (i : Int) := by omega
    have hs1 : (i : Int) < (l1.length : Int) := by omega
    obtain ⟨ad, ead, hx0, hx1, hx2⟩ := at_T120 (Kd.C_below HR1.out HBw.out) (i : Int) hs0 hs1
    cases ead
    have h := H.out
    rw [List.drop_eq_getElem_cons hlt] at h
    have hrd : rd_T120 l1 (i : Int) = l1[i] := by
     unfold rd_T120
     rw [Int.toNat_natCast, List.getD_eq_getElem?_getD, List.getElem?_eq_getElem hlt]
     rfl
    rw [← hrd] at h
    rw [Int.toNat_natCast] at hx0 hx1 hx2
    clear hrd H HB HB2 HRES
    generalize rd_T120 l1 (i : Int) = x at *
    simp only [vols_Check.go] at h
    cases hres : vols_at.go x.f0 x.f1 l0 0 with
    | error c =>
     rw [hres] at h
     simp only at h
     subst h
     have hc := vols_at.go_ne hres
     go_wp2_with (first | ((with_reducible refine gate_dst (N := 6) rfl ?_); refine box_event ?hg (N := 6) ?hd (cs := #[.int .i64 0, .int .i64 0, .string (⟨#[]⟩ : ByteArray)]) (t := 120) ?hr ?_; (case hd => rfl); (case hg => rfl); (case hr => exact z30_); intro gb hg w5 hbox hb; have HB5 := a0_ (below_step HBw.out hb); have BK := a0_ hbox; have GE := a0_ (z31_ : w.heap.size ≤ gb); clear hb hbox hg; have hcz0 : w5.cell? ⟨gb, 0, none⟩ = some (.int .i64 0) := (blk_cell BK.out 0).trans rfl; have hcz1 : w5.cell? ⟨gb, 1, none⟩ = some (.int .i64 0) := (blk_cell BK.out 1).trans rfl; have hcz2 : w5.cell? ⟨gb, 2, none⟩ = some (.string (⟨#[]⟩ : ByteArray)) := (blk_cell BK.out 2).trans rfl; obtain ⟨hfz0, hfz1, hfz2⟩ := bf3_ BK.out) | (go_at_fn 50; refine (vols_at.runB A0 c0 l0 _ _ w _ HR0.out (below_set (below_set (below_set HB5.out GE.out) GE.out) GE.out)).mono ?_; rintro e w9 ⟨rfl, hb9, he⟩; have HB9 := a0_ hb9; clear hb9; rw [hres] at he; simp only at he; subst he))
     go_ret
     exact ⟨rfl, HB9.out⟩
    | ok j =>
     rw [hres] at h
     simp only at h
     by_cases c2 : (x.f2.size : Int) > 8
     ·rw [if_pos c2] at h
      subst h
      go_wp2_with (first | ((with_reducible refine gate_dst (N := 6) rfl ?_); refine box_event ?hg (N := 6) ?hd (cs := #[.int .i64 0, .int .i64 0, .string (⟨#[]⟩ : ByteArray)]) (t := 120) ?hr ?_; (case hd => rfl); (case hg => rfl); (case hr => exact z30_); intro gb hg w5 hbox hb; have HB5 := a0_ (below_step HBw.out hb); have BK := a0_ hbox; have GE := a0_ (z31_ : w.heap.size ≤ gb); clear hb hbox hg; have hcz0 : w5.cell? ⟨gb, 0, none⟩ = some (.int .i64 0) := (blk_cell BK.out 0).trans rfl; have hcz1 : w5.cell? ⟨gb, 1, none⟩ = some (.int .i64 0) := (blk_cell BK.out 1).trans rfl; have hcz2 : w5.cell? ⟨gb, 2, none⟩ = some (.string (⟨#[]⟩ : ByteArray)) := (blk_cell BK.out 2).trans rfl; obtain ⟨hfz0, hfz1, hfz2⟩ := bf3_ BK.out) | (go_at_fn 50; refine (vols_at.runB A0 c0 l0 _ _ w _ HR0.out (below_set (below_set (below_set HB5.out GE.out) GE.out) GE.out)).mono ?_; rintro e w9 ⟨rfl, hb9, he⟩; have HB9 := a0_ hb9; clear hb9; rw [hres] at he; obtain ⟨ad9, A9, c9, e9, hx9, rfl⟩ := he; clear hx9 e9))
      go_ret
      exact ⟨rfl, HB9.out⟩
     ·rw [if_neg c2] at h
      have HH := a0_ h
      clear h
      go_wp2_with (first | ((with_reducible refine gate_dst (N := 6) rfl ?_); refine box_event ?hg (N := 6) ?hd (cs := #[.int .i64 0, .int .i64 0, .string (⟨#[]⟩ : ByteArray)]) (t := 120) ?hr ?_; (case hd => rfl); (case hg => rfl); (case hr => exact z30_); intro gb hg w5 hbox hb; have HB5 := a0_ (below_step HBw.out hb); have BK := a0_ hbox; have GE := a0_ (z31_ : w.heap.size ≤ gb); clear hb hbox hg; have hcz0 : w5.cell? ⟨gb, 0, none⟩ = some (.int .i64 0) := (blk_cell BK.out 0).trans rfl; have hcz1 : w5.cell? ⟨gb, 1, none⟩ = some (.int .i64 0) := (blk_cell BK.out 1).trans rfl; have hcz2 : w5.cell? ⟨gb, 2, none⟩ = some (.string (⟨#[]⟩ : ByteArray)) := (blk_cell BK.out 2).trans rfl; obtain ⟨hfz0, hfz1, hfz2⟩ := bf3_ BK.out) | (go_at_fn 50; refine (vols_at.runB A0 c0 l0 _ _ w _ HR0.out (below_set (below_set (below_set HB5.out GE.out) GE.out) GE.out)).mono ?_; rintro e w9 ⟨rfl, hb9, he⟩; have HB9 := a0_ hb9; clear hb9; rw [hres] at he; obtain ⟨ad9, A9, c9, e9, hx9, rfl⟩ := he; clear hx9 e9))
      go_roundw
      case measure => simp [intOf]; omega
      case rel => exact ⟨i + 1, z7_, z9_, HH, HB9⟩
   ·obtain rfl : i = l1.length := by omega
    have h := H.out
    rw [List.drop_length] at h
    simp only [vols_Check.go] at h
    subst h
    go_wp2
    go_ret
    exact ⟨rfl, HBw.out⟩
def slices_Clone_string_string.f (l0 : List ByteArray) : Option (List ByteArray) := if l0.length ≤ 8796093022208 then some l0 else none
theorem infoStr : (Try.prog.info? 9).map (fun i => (i.zero, i.size, i.bytes)) = some (some (.string ⟨#[]⟩), 1, 16) := by kernel_rfl
set_option maxHeartbeats 1000000 in
set_option maxRecDepth 100000 in
theorem slices_Clone_string_string.calls (A0 : Option Addr) (c0 : Nat) (l0 : List ByteArray) (r : List ByteArray) (w : World) (hr0 : Kd.C Kd.string w A0 l0.length l0) (hc0 : l0.length ≤ c0) (h : slices_Clone_string_string.f l0 = some r) :
  Calls Try.prog 69 #[.slice A0 l0.length c0] w fun e w' => ∃ v0_ : Value, e = .returned v0_ ∧ Kd.R Kd.string 9 w' w.heap.size (fun _ => True) v0_ r ∧ Below w.heap.size w w' := by
 have HB := a0_ (Below.refl w.heap.size w)
 unfold slices_Clone_string_string.f at h
 by_cases c1 : l0.length ≤ 8796093022208
 ·rw [if_pos c1] at h
  obtain rfl : l0 = r := by injection h
  cases A0 with
  | none =>
   have hl : l0 = [] := by
    cases l0 with
    | nil => rfl
    | cons x xs => obtain ⟨ad, e, _⟩ := hr0.2.2 (by simp); cases e
   subst hl
   clear h hr0
   have hq := fun w' => run_eql_slice_nil (P := Try.prog) w' 24 9 none 0 c0 Try.underlying24
   go_enter Try.func69, Try.ntmps69
   go_wp2
   go_ret
   exact ⟨_, rfl, Kd.R_nil _ _ _ _ _, HB.out⟩
  | some a0 =>
   have HR := a0_ hr0
   have HL := a0_ c1
   clear h hr0 c1 hc0
   have hq := fun w' => run_eql_slice_nil (P := Try.prog) w' 24 9 (some a0) l0.length c0 Try.underlying24
   go_enter Try.func69, Try.ntmps69
   go_wp2_with (first | ((with_reducible refine gate_dst (N := 5) rfl ?_); refine Kd.R_lit Kd.string _ 9 ?hg (N := 5) ?hd (xs := ([] : List ByteArray)) (inner := []) (ok := fun _ => True) (okp := fun _ => True) ?hr ?hp (fun _ hk => hk) trivial (Below.refl _ _) (Nat.le_refl _) (by simp) ?_; (case hd => rfl); (case hg => rfl); (case hr => exact z30_); (case hp => exact Reps.none _ _); intro v5 w5 ho5 hb hg_ hnew_; have HO5 := a0_ ho5; have HB5 := a0_ (below_step HB.out hb); clear hg_ hnew_ hb ho5) | ((with_reducible refine gate_builtin (b := .append) (xs := #[.tmp 5, .tmp 6]) rfl ?_); at_builtin; refine Kd.R_append_rows Kd.string (w0 := w) w.heap.size rfl (.tmp 5) (.tmp 6) 24 9 (.string ⟨#[]⟩) 16 rfl Try.underlying24 infoStr rfl z8_ z7_ v5 [] l0 _ _ _ (fun _ => True) (fun _ => False) rfl rfl ?aO ?aR (fun _ _ h => h) (fun _ h => h.elim) ?aF ?aB ?aS ?aL ?_; (case aO => exact HO5.out); (case aR => exact Kd.C_below HR.out HB5.out); (case aF => exact z32_); (case aB => exact HB5.out); (case aS => exact z33_); (case aL => exact z34_); intro v7 w7 ho7 hb7 hg_ hat_; have HO7 := a0_ ho7; have HB7 := a0_ hb7; clear ho7 hb7 hg_ hat_))
   go_ret
   exact ⟨_, rfl, HO7.out, HB7.out⟩
 ·rw [if_neg c1] at h; cases h
def vols_clone.l0 : Nat → List (S137) → List (S137) → Int → Int → Option ((List (S137)))
 | 0, _, _, _, _ => none
 | k + 1, x3, x6, x7, x8 => if x8 < x7 then (if 0 ≤ x8 then (if x8 < (x6.length : Int) then ((slices_Clone_string_string.f ((rd_T137 x6 x8).f1)).bind fun t112 => (if x3.length < 4398046511104 then (vols_clone.l0 k (x3 ++ [(⟨(rd_T137 x6 x8).f0, t112⟩ : S137)]) x6 x7 (wrap64 (x8 + 1))) else (none))) else (none)) else (none)) else (some x3)
def vols_clone.f (k : Nat) (l0 : List (S137)) : Option ((List (S137))) := vols_clone.l0 k ([] : List (S137)) l0 (l0.length : Int) 0
def vols_clone.T5 : Bool × List (List Nat × List Nat) := (true, [([], []), ([], []), ([1], [1]), ([], []), ([3], [3]), ([4], [4]), ([2, 5], [2, 5]), ([6], [6]), ([0, 7, 5], [0, 7]), ([8, 8, 0, 1, 2, 3, 4, 5, 6, 7, 8], [0, 8])])
def vols_clone.B5 : List Nat := [0, 0, 2, 0, 8, 24, 62, 126, 255, 511]
theorem vols_clone.tab5 : rtab .any (opsOf Try.f49 5) = vols_clone.T5 := by kernel_rfl
theorem vols_clone.bits5 : waitsOk vols_clone.T5.2 vols_clone.B5 = true := by kernel_rfl
set_option maxHeartbeats 8000000 in
set_option maxRecDepth 100000 in
theorem vols_clone.calls (k : Nat) (A0 : Option Addr) (c0 : Nat) (l0 : List (S137)) (r : List (S137)) (w : World) (hr0 : Kd.C k137 w A0 l0.length l0) (hc0 : l0.length ≤ c0) (h : vols_clone.f k l0 = some r) :
  Calls Try.prog 49 #[.slice A0 l0.length c0] w fun e w' => ∃ v0_ : Value, e = .returned (v0_) ∧ Kd.S k137 137 w' w.heap.size (fun _ => True) v0_ r ∧ Below w.heap.size w w' := by
 have hu137 := Try.underlying137
 have HR0 := a0_ hr0
 have HC0 := a0_ hc0
 clear hr0 hc0
 have HB := a0_ (Below.refl w.heap.size w)
 have H : (vols_clone.l0 k ([] : List (S137)) l0 (l0.length : Int) 0) = some r := h
 clear h
 have H' := a0_ H
 clear H
 go_enter Try.func49, Try.ntmps49
 go_wp2
 go_loopg [3, 8] k (fun kq v3 v8 w' => ∃ (x3_1 : List (S137)) (x8_1 : Int), v8 = .int .i64 x8_1 ∧ Aside0 (vols_clone.l0 kq x3_1 l0 (l0.length : Int) x8_1 = some r) ∧ Aside0 (kq ≤ k) ∧ Aside0 (Kd.S k137 137 w' w.heap.size (fun _ => True) v3 x3_1) ∧ Aside0 (Below w.heap.size w w'))
 case atStart => exact ⟨(([] : List (S137))), (0), z4_, H', ⟨Nat.le_refl _⟩, ⟨z26_⟩, ⟨z3_⟩⟩
 case round =>
  clear H'
  obtain ⟨x3_1, x8_1, rfl, HA, HK1, HO_3, HB⟩ := hrel
  cases gk with
  | zero => exact absurd HA.out (by simp [vols_clone.l0])
  | succ k1 =>
   have H := HA.out
   clear HA
   simp only [vols_clone.l0] at H
   by_cases c2 : x8_1 < (l0.length : Int)
   ·rw [if_pos c2] at H
    have c2b0 : decide (x8_1 < (l0.length : Int)) = true := decide_eq_true c2
    clear c2
    by_cases c3 : 0 ≤ x8_1
    ·rw [if_pos c3] at H
     have c3b0 : decide (0 ≤ x8_1) = true := decide_eq_true c3
     clear c3
     by_cases c4 : x8_1 < (l0.length : Int)
     ·rw [if_pos c4] at H
      have c4b0 : decide (x8_1 < (l0.length : Int)) = true := decide_eq_true c4
      clear c4
      replace H := Option.bind_eq_some_iff.mp H
      obtain ⟨t112, A50, H⟩ := H
      try dsimp only at H
      have A5 := a0_ A50
      clear A50
      by_cases c6 : x3_1.length < 4398046511104
      ·rw [if_pos c6] at H
       have LMc6 := a0_ c6
       clear c6
       obtain ⟨y115, hy115⟩ : ∃ y_ : List (S137), y_ = (x3_1 ++ [(⟨(rd_T137 l0 x8_1).f0, t112⟩ : S137)]) := ⟨_, rfl⟩
       replace H : (vols_clone.l0 k1 y115 l0 (l0.length : Int) (wrap64 (x8_1 + 1))) = some r := by first | (rw [hy115]; with_reducible exact H) | (have H2_ := (Option.bind_some _ _).symm.trans H; rw [hy115]; with_reducible exact H2_) | (have H2_ := (Option.bind_some _ _).symm.trans H; with_reducible exact H2_) | with_reducible exact H | (rw [hy115]; exact H) | exact H
       have Ny115 := a0_ hy115
       clear hy115
       have H' := a0_ H
       clear H
       have p110 : 0 ≤ (x8_1 : Int) := of_decide_eq_true z10_
       have q110 : x8_1 < (l0.length : Int) := of_decide_eq_true z10_
       obtain ⟨ad110, A110_1, c110_1, e110, hx110_0, hx110_1, hl110_1, hi110_1⟩ := at_T137 HR0.out x8_1 p110 q110
       cases e110
       replace hx110_0 := (HB.out.cell (World.block_lt_of_cell? w _ hx110_0)).trans hx110_0
       replace hx110_1 := (HB.out.cell (World.block_lt_of_cell? w _ hx110_1)).trans hx110_1
       have HR110_1 := a0_ hi110_1
       have HC110_1 := a0_ hl110_1
       clear hi110_1 hl110_1
       replace p110 := eq_true p110
       replace q110 := eq_true q110
       try go_wp2_with (first | ((with_reducible refine gate_dst (N := 5) rfl ?_); refine box_event ?hg (N := 5) ?hd (cs := #[.int .i64 0, .slice none 0 0]) (t := 137) ?hr ?_; (case hd => rfl); (case hg => rfl); (case hr => exact z11_); intro gb111 hg w7 hbox hb; have n0_ := a0_ (Kd.S_below (Kd.S_elderB z35_ gb111 (Nat.le_of_eq hg.symm)) hb); have n1_ := a0_ (below_step z3_ hb); have n2_ := a0_ (hbox); have n3_ := a0_ ((z12_ : w.heap.size ≤ gb111)); have n4_ := a0_ ((z12_ : w.heap.size ≤ gb111)); clear HO_3; clear HB; have HO_3 := n0_; have HB := n1_; have BK111 := n2_; have GW111 := n3_; have GE111 := n4_; clear n0_ n1_ n2_ n3_ n4_; clear hb hbox hg; have hcz8_0 : w7.cell? ⟨gb111, 0, none⟩ = some (.int .i64 0) := (blk_cell BK111.out 0).trans rfl; have hcz8_1 : w7.cell? ⟨gb111, 1, none⟩ = some (.slice none 0 0) := (blk_cell BK111.out 1).trans rfl; have hfz8_0 := blk_frozen BK111.out 0; have hfz8_1 := blk_frozen BK111.out 1))
       have n0_ : Aside0 (Kd.S k137 137 ((w7.setCell ⟨gb111, 0, none⟩ (.int .i64 ((rd_T137 l0 x8_1).f0))).setCell ⟨gb111, 1, none⟩ (.slice A110_1 ((rd_T137 l0 x8_1).f1).length c110_1)) w.heap.size (fun k_ => k_ ≠ gb111) u3 x3_1) := ⟨by (with_reducible repeat (first | apply Kd.S_alloc | apply Kd.S_drewN | apply Kd.S_drew)); exact Kd.S_mono (Kd.S_far (p := ⟨gb111, 1, none⟩) (Kd.S_far (p := ⟨gb111, 0, none⟩) (Kd.S_mono HO_3.out (fun k_ hk => (⟨hk, hk.2⟩ : _ ∧ k_ ≠ gb111))) (fun _ hk => hk.2) (.int .i64 ((rd_T137 l0 x8_1).f0))) (fun _ hk => hk.2) (.slice A110_1 ((rd_T137 l0 x8_1).f1).length c110_1)) (fun _ hk => hk.1.2)⟩
       have n1_ : Aside0 (((w7.setCell ⟨gb111, 0, none⟩ (.int .i64 ((rd_T137 l0 x8_1).f0))).setCell ⟨gb111, 1, none⟩ (.slice A110_1 ((rd_T137 l0 x8_1).f1).length c110_1)).heap[gb111]? = some (.cells #[.int .i64 ((rd_T137 l0 x8_1).f0), .slice A110_1 ((rd_T137 l0 x8_1).f1).length c110_1] 137 (0, 0))) := ⟨by (with_reducible repeat (first | refine blk_drewN ?_ _ | refine blk_drew ?_ | refine blk_alloc ?_ _)); refine blk_put (cs := #[.int .i64 ((rd_T137 l0 x8_1).f0), .slice none 0 0]) ?_ 1 _ rfl; (with_reducible repeat (first | refine blk_drewN ?_ _ | refine blk_drew ?_ | refine blk_alloc ?_ _)); refine blk_put (cs := #[.int .i64 0, .slice none 0 0]) ?_ 0 _ rfl; (with_reducible repeat (first | refine blk_drewN ?_ _ | refine blk_drew ?_ | refine blk_alloc ?_ _)); exact BK111.out⟩
       have n2_ : Aside0 (Below w.heap.size w ((w7.setCell ⟨gb111, 0, none⟩ (.int .i64 ((rd_T137 l0 x8_1).f0))).setCell ⟨gb111, 1, none⟩ (.slice A110_1 ((rd_T137 l0 x8_1).f1).length c110_1))) := ⟨z36_⟩
       (try clear HO_3)
       (try clear BK111)
       (try clear HB)
       generalize ((w7.setCell ⟨gb111, 0, none⟩ (.int .i64 ((rd_T137 l0 x8_1).f0))).setCell ⟨gb111, 1, none⟩ (.slice A110_1 ((rd_T137 l0 x8_1).f1).length c110_1)) = w9 at n0_ n1_ n2_ ⊢
       have HO_3 := n0_
       have BK111 := n1_
       have HB := n2_
       clear n0_ n1_ n2_
       have n0_ := a0_ (Kd.S_drew HO_3.out)
       have n1_ := a0_ (blk_drew BK111.out)
       have n2_ := a0_ (below_drew1 HB.out)
       clear HO_3
       clear BK111
       clear HB
       have HO_3 := n0_
       have BK111 := n1_
       have HB := n2_
       clear n0_ n1_ n2_
       refine st_ 10 (S := fun w' => w'.cell? ⟨gb111, 0, none⟩ = some (.int .i64 ((rd_T137 l0 x8_1).f0)) ∧ w'.cell? ⟨gb111, 1, none⟩ = some (.slice A110_1 ((rd_T137 l0 x8_1).f1).length c110_1)) (ds := []) ⟨(blk_cell BK111.out 0).trans rfl, (blk_cell BK111.out 1).trans rfl⟩ (fun hHeld => ?_); refine with_tabW vols_clone.tab5 vols_clone.bits5 (fun HT_ HW_ => ?_)
       generalize w9.drew = w10 at HO_3 BK111 HB hHeld ⊢
       refine pq_ 0 (some 12) rfl rfl ?_
       refine pq_ 1 (some 13) rfl rfl ?_
       refine pq_ 3 (some 15) rfl rfl ?_
       refine tq_ 2 (some 14) rfl rfl hHeld ?_
       refine tq_ 4 (some 16) rfl rfl hHeld ?_
       refine oq_ 5 (some 17) rfl rfl (fun K hK => ?_)
       refine goes_ Try.func69 z6_ rfl #[.slice A110_1 ((rd_T137 l0 x8_1).f1).length c110_1] (by rfl) rfl rfl z16_ ?_
       with_reducible refine (slices_Clone_string_string.calls _ _ ((rd_T137 l0 x8_1).f1) t112 _ ?side1 ?side2 A5.out).mono ?_
       (case side1 => repeat (first | exact (Kd.C_below HR110_1.out HB.out) | (with_reducible refine Kd.C_alloc ?_ _) | (with_reducible refine Kd.C_drewN ?_ _) | (with_reducible refine Kd.C_drew ?_)))
       (case side2 => exact HC110_1.out)
       rintro e w11 ⟨v113, rfl, ho0, hb⟩
       refine ⟨_, rfl, ?_⟩
       have n0_ := a0_ (Kd.S_elder' z35_ (Kd.R_base ho0) hb)
       have n1_ := a0_ (Kd.R_lower ho0 (below_size z36_))
       have n2_ := a0_ (blk_below z37_ hb)
       have n3_ := a0_ (below_step z36_ hb)
       clear HO_3
       clear BK111
       clear HB
       have HO_3 := n0_
       have HO114 := n1_
       have BK111 := n2_
       have HB := n3_
       clear n0_ n1_ n2_ n3_
       (try clear hb)
       (try clear hb2)
       (try clear hk)
       (try clear hi)
       (try clear ho0)
       obtain ⟨Ao12, co12, eo12⟩ := Kd.R_slice HO114.out
       (first | subst eo12 | (injection eo12 with f1_ f2_ f3_; have f4_ := f1_.symm; have f5_ := f3_.symm; clear f1_ f2_ f3_; subst f4_; subst f5_))
       refine hK.out _ _ z38_ (fun hHeld => ?_)
       clear hK K
       refine norm_ (a' := ?_) ?_ ?_
       rotate_left
       ·show Act.put _ (some 17) _ = _
        exact put_
       refine pq_ 6 (some 18) rfl rfl ?_
       refine oq_ 7 (some 19) rfl rfl (fun K hK => ?_)
       refine value_ (w1 := ?_) (v := ?_) (by rfl) rfl ?_ ?_
       rotate_left 2
       ·go_simp
        constructor
        ·rfl
        ·rfl
       refine hK.out _ _ (by exact ⟨(blk_cell (blk_alloc BK111.out _) 0).trans rfl, (blk_cell (blk_alloc BK111.out _) 1).trans rfl⟩) (fun hHeld => ?_)
       clear hK K
       refine norm_ (a' := ?_) ?_ ?_
       rotate_left
       ·show Act.put _ (some 19) _ = _
        exact put_
       refine oq_ 8 (some 20) rfl rfl (fun K hK => ?_)
       refine Kd.S_append_step k137 (w0 := w) w.heap.size (by rfl) (.tmp 12) (.tmp 19) 59 137 (.agg #[(.int .i64 0), (.slice none 0 0)]) 32 rfl Try.underlying59 info137 rfl z8_ z7_ u3 x3_1 (⟨(rd_T137 l0 x8_1).f0, t112⟩ : S137) [.int .i64 ((rd_T137 l0 x8_1).f0), .slice Ao12 t112.length co12] (fun k_ => k_ ≠ gb111) (fun k_ => some k_ = (.slice Ao12 t112.length co12 : Value).ownBlock) rfl rfl ?aP (fun k_ hk_ => ((Kd.R_mono (ok' := fun k_ => ((fun k_ => k_ ≠ gb111)) k_ ∧ some k_ ≠ (u3 : Value).ownBlock) (Kd.R_types (Kd.R_apart' (HO114.out) (Kd.S_typed HO_3.out) z8_) BK111.out z8_) (fun k_ hk => ⟨hk.2, hk.1.2⟩))).1 k_ hk_.symm) ?aF ?aO ?aB ?aS ?aL ?_
       (case aP => exact k137_mkM _ _ _ (⟨(rd_T137 l0 x8_1).f0, t112⟩ : S137) (Kd.R_mono (Kd.R_tight rfl (Kd.R_mono (ok' := fun k_ => ((fun k_ => k_ ≠ gb111)) k_ ∧ some k_ ≠ (u3 : Value).ownBlock) (Kd.R_types (Kd.R_apart' (HO114.out) (Kd.S_typed HO_3.out) z8_) BK111.out z8_) (fun k_ hk => ⟨hk.2, hk.1.2⟩))) (fun _ h_ => h_)))
       (case aB => exact z36_)
       (case aF => exact (fun k_ hk => Kd.freshB (g := gb111) (o := .cells #[.int .i64 ((rd_T137 l0 x8_1).f0), .slice A110_1 ((rd_T137 l0 x8_1).f1).length c110_1] 137 (0, 0)) z37_ k_ hk))
       (case aO => exact (by (with_reducible repeat (first | apply Kd.S_alloc | apply Kd.S_drewN | apply Kd.S_drew)); exact Kd.S_mono HO_3.out (fun k_ hk => ⟨hk.1, fun e_ => hk.2 e_⟩)))
       (case aS => exact (below_size z36_))
       (case aL => have := LMc6.out; omega)
       intro v116 w13 ho hb hg hat
       rw [← Ny115.out] at ho
       have n0_ := a0_ (blk_grown (g := gb111) (o := .cells #[.int .i64 ((rd_T137 l0 x8_1).f0), .slice A110_1 ((rd_T137 l0 x8_1).f1).length c110_1] 137 (0, 0)) z37_ hg (Kd.S_away HO_3.out (fun _ hk => hk.1)))
       have n1_ := a0_ (hb)
       have n2_ := a0_ (ho)
       clear BK111
       clear HB
       clear HO_3
       clear HO114
       have BK111 := n0_
       have HB := n1_
       have HO117 := n2_
       clear n0_ n1_ n2_
       clear ho hb hg hat
       refine hK.out _ _ z38_ (fun hHeld => ?_)
       clear hK K
       refine norm_ (a' := ?_) ?_ ?_
       rotate_left
       ·show Act.put _ (some 20) _ = _
        exact put_
       refine pq_ 9 (some 3) rfl rfl ?_
       refine done_ (done_of HT_.out z6_) ?_
       try go_wp2
       go_roundg k1
       case measure => have := HK1.out; omega
       case rel => exact ⟨(y115), (wrap64 (x8_1 + 1)), z4_, H', ⟨z39_⟩, ⟨by (with_reducible repeat (first | apply Kd.S_alloc | apply Kd.S_drewN | apply Kd.S_drew)); exact Kd.S_mono HO117.out (fun _ hk => trivial)⟩, ⟨z36_⟩⟩
      ·rw [if_neg c6] at H
       exact absurd H (by simp)
     ·rw [if_neg c4] at H
      exact absurd H (by simp)
    ·rw [if_neg c3] at H
     exact absurd H (by simp)
   ·rw [if_neg c2] at H
    have c2b0 : decide (x8_1 < (l0.length : Int)) = false := decide_eq_false c2
    clear c2
    obtain rfl := Option.some.inj H
    go_wp2
    go_ret
    exact ⟨_, z2_, z35_, z3_⟩
theorem put_block {W : World} {base n cap : Nat} {ok : Nat → Prop} {A : Option Addr} {xs : List S137} (h : Kd.S k137 137 W base ok (.slice A n cap) xs) {j : Nat} (hj : j < xs.length) {b : Int} (hb : 0 ≤ b ∧ b < ((xs.getD j z137).f1.length : Int)) {ad A1 : Addr} {n1 c1 : Nat} (e1 : A = some ad) (hc : W.cell? ⟨(ad.add (j * 2)).block, (ad.add (j * 2)).off + 1, none⟩ = some (.slice (some A1) n1 c1)) (u : ByteArray) :
  Kd.S k137 137 (W.setCell (A1.add b.toNat) (.string u)) base ok (.slice A n cap) (xs.set j ⟨(xs.getD j z137).f0, (xs.getD j z137).f1.set b.toNat u⟩) ∧ W.frozen? (A1.add b.toNat) = false ∧ (∃ u0, W.cell? (A1.add b.toNat) = some (.string u0)) ∧ ∃ g1, A1.add b.toNat = ⟨g1, b.toNat, none⟩ ∧ base ≤ g1 := by
 subst e1
 obtain ⟨g, rfl⟩ := Kd.R_head (Kd.S_R h)
 have hn := (Kd.S_reads' h).1
 obtain ⟨oki, c, hcl, hM, hcc, hok, hH⟩ := Kd.S_lend h z137 (j : Int) z7_ z7_
 rw [Int.toNat_natCast] at hM hcc
 obtain ⟨v1, rfl, hR⟩ := k137_openM hM
 have h1 := hcc 1 v1 rfl
 have e2 : W.cell? ⟨g, j * 2 + 1, none⟩ = some (.slice (some A1) n1 c1) := by
  rw [add_plain] at hc
  exact hc
 have h1 : W.cell? ⟨g, j * 2 + 1, none⟩ = some v1 := h1
 rw [e2] at h1
 injection h1 with h1
 subst h1
 obtain ⟨g1, cap1, e3, hb1, hl1, cells, hcs⟩ := Kd.R_form hR z7_
 injection e3 with e3a e3b e3c
 injection e3a with e3a
 subst e3a
 have hkg : oki g1 := hR.1 g1 rfl
 have ea : (⟨g1, 0, none⟩ : Addr).add b.toNat = ⟨g1, b.toNat, none⟩ := add_plain _ _
 rw [ea]
 refine ⟨?_, blk_frozen hcs _, ⟨_, (Kd.R_celln ByteArray.empty hR b hb.1 (by rw [(Kd.R_reads' hR).1]; exact hb.2)).1⟩, g1, rfl, hb1⟩
 have hH2 := Kd.H_step (w1 := W.setCell ⟨g1, b.toNat, none⟩ (.string u)) hH (fun k hk hno _ => Below.heap_setCell W ⟨g1, b.toNat, none⟩ (.string u) k (fun he => hno (by rw [he]; exact hkg)))
 have hR2 := Kd.R_putn hR b u
 have := Kd.H_back hH2 (x' := ⟨(xs.getD j z137).f0, (xs.getD j z137).f1.set b.toNat u⟩) (okp := oki) (k137_mkM _ _ _ ⟨(xs.getD j z137).f0, (xs.getD j z137).f1.set b.toNat u⟩ hR2) (fun k hk => hk)
 rw [Int.toNat_natCast] at this
 exact this
theorem vols_at.runS {W : World} {b0 : Nat} {w0 : World} {base n cap : Nat} {ok : Nat → Prop} {A : Option Addr} {xs : List S137} (h : Kd.S k137 137 W base ok (.slice A n cap) xs) {vol block : Int} {j : Nat} (hres : vols_at.go vol block xs 0 = .ok j) (hB : Below b0 w0 W) :
  Calls Try.prog 50 #[.slice A n cap, .int .i64 vol, .int .i64 block] W fun e w' => w' = W ∧ Below b0 w0 W ∧ ∃ g1, e = .returned (.tuple #[.pointer (some ⟨g1, block.toNat, none⟩), .int .i64 0]) ∧ W.frozen? ⟨g1, block.toNat, none⟩ = false ∧ (∃ u0, W.cell? ⟨g1, block.toNat, none⟩ = some (.string u0)) ∧ base ≤ g1 ∧
   ∀ u, Kd.S k137 137 (W.setCell ⟨g1, block.toNat, none⟩ (.string u)) base ok (.slice A n cap) (xs.set j ⟨(xs.getD j z137).f0, (xs.getD j z137).f1.set block.toNat u⟩) := by
 obtain ⟨hn, hc, hC⟩ := Kd.S_reads' h
 subst hn
 refine (vols_at.run A cap xs vol block W hC).mono ?_
 rintro e w' ⟨rfl, he⟩
 rw [hres] at he
 obtain ⟨ad, A1, c1, e1, hx, rfl⟩ := he
 obtain ⟨_, hj, hb⟩ := vols_at.go_ok hres
 have hb := hb z137
 rw [Nat.sub_zero] at hb
 obtain ⟨_, q2, q3, g1, q4, q5⟩ := put_block h z7_ hb e1 hx ⟨#[]⟩
 rw [q4] at q2 q3
 rw [q4]
 exact ⟨rfl, hB, g1, rfl, q2, q3, q5, fun u => by have := (put_block h z7_ hb e1 hx u).1; rw [q4] at this; exact this⟩
def vols_Apply.go : List S137 → List S120 → Option (List S137)
 | vs, [] => some vs
 | vs, x :: r => match vols_at.go x.f0 x.f1 vs 0 with
  | .error _ => none
  | .ok j => vols_Apply.go (vs.set j ⟨(vs.getD j z137).f0, (vs.getD j z137).f1.set x.f1.toNat x.f2⟩) r
def vols_Apply.f (k : Nat) (vs : List S137) (ws : List S120) : Option (List S137 × Int) := (vols_Check.f k vs ws).bind fun e => if e = 0 then ((vols_clone.f k vs).bind fun o => (vols_Apply.go o ws).bind fun r => some (r, 0)) else some ([], e)
set_option maxHeartbeats 4000000 in
set_option maxRecDepth 100000 in
theorem vols_Apply.calls (k : Nat) (A0 : Option Addr) (c0 : Nat) (l0 : List S137) (A1 : Option Addr) (c1 : Nat) (l1 : List S120) (r0 : List S137) (r1 : Int) (w : World) (hr0 : Kd.C k137 w A0 l0.length l0) (hc0 : l0.length ≤ c0) (hr1 : Kd.C k120 w A1 l1.length l1) (hc1 : l1.length ≤ c1) (h : vols_Apply.f k l0 l1 = some (r0, r1)) :
  Calls Try.prog 16 #[.slice A0 l0.length c0, .slice A1 l1.length c1] w fun e w' => ∃ v0_ : Value, e = .returned (.tuple #[v0_, .int .i64 r1]) ∧ Kd.S k137 137 w' w.heap.size (fun _ => True) v0_ r0 ∧ Below w.heap.size w w' := by
 have HR0 := a0_ hr0
 have HR1 := a0_ hr1
 have HC0 := a0_ hc0
 have HC1 := a0_ hc1
 have hmax : l1.length ≤ 9223372036854775807 := hr1.2.1
 clear hr0 hc0 hr1 hc1
 have HB := a0_ (Below.refl w.heap.size w)
 obtain ⟨b, hb, hr⟩ := Option.bind_eq_some_iff.1 h
 have A2 := a0_ hb
 clear h hb
 have eg : ∀ args w, (callFunc 48 args).run Try.prog w = .ok (.enter 48 args) w := enters_of Try.func48 z6_ rfl
 have eg3 : ∀ args w, (callFunc 49 args).run Try.prog w = .ok (.enter 49 args) w := enters_of Try.func49 z6_ rfl
 have eg2 : ∀ args w, (callFunc 50 args).run Try.prog w = .ok (.enter 50 args) w := enters_of Try.func50 z6_ rfl
 go_enter Try.func16, Try.ntmps16
 by_cases hb0 : b = 0
 ·rw [if_pos hb0] at hr
  subst hb0
  obtain ⟨o, ho, hr⟩ := Option.bind_eq_some_iff.1 hr
  obtain ⟨r, hgo, hr⟩ := Option.bind_eq_some_iff.1 hr
  cases hr
  have A3 := a0_ ho
  have HRES := a0_ hgo
  clear ho hgo
  go_wp2_with (first | (go_at_fn 48; (refine (vols_Check.calls k _ _ l0 _ _ l1 0 _ HR0.out HC0.out HR1.out HC1.out A2.out).mono ?_); rintro e w4 ⟨rfl, hb⟩; have HB2 := a0_ (below_step HB.out hb); clear hb) | (go_at_fn 49; (refine (vols_clone.calls k _ _ l0 o _ (Kd.C_below HR0.out HB2.out) HC0.out A3.out).mono ?_); rintro e w5 ⟨v5, rfl, ho5, hb⟩; have HO5 := a0_ (Kd.S_lower ho5 (below_size HB2.out)); have HB3 := a0_ (below_step HB2.out hb); clear hb ho5; obtain ⟨Ao, co, eo⟩ := Kd.S_slice HO5.out; subst eo))
  go_loopw [9, 10, 11, 22] (fun v9 v10 v11 v22 w' => ∃ (i : Nat) (x : List S137), i ≤ l1.length ∧ v22 = .int .i64 i ∧ Aside0 (vols_Apply.go x (l1.drop i) = some r0) ∧ Aside0 (Kd.S k137 137 w' w.heap.size (fun _ => True) (.slice Ao o.length co) x) ∧ Aside0 (Below w.heap.size w w')) (fun _ _ _ v22 _ => l1.length - (intOf v22).toNat)
  case atStart => exact ⟨0, o, Nat.zero_le _, rfl, HRES, HO5, HB3⟩
  case round =>
   obtain ⟨i, x0, hi, rfl, H, HO, HBw⟩ := hrel
   by_cases hlt : i < l1.length
   ·have hs0 : 0 ≤ (i : Int) := by omega
    have hs1 : (i : Int) < (l1.length : Int) := by omega
    obtain ⟨ad, ead, hx0, hx1, hx2⟩ := at_T120 (Kd.C_below HR1.out HBw.out) (i : Int) hs0 hs1
    cases ead
    have h := H.out
    rw [List.drop_eq_getElem_cons hlt] at h
    have hrd : rd_T120 l1 (i : Int) = l1[i] := by
     unfold rd_T120
     rw [Int.toNat_natCast, List.getD_eq_getElem?_getD, List.getElem?_eq_getElem hlt]
     rfl
    rw [← hrd] at h
    rw [Int.toNat_natCast] at hx0 hx1 hx2
    clear hrd H HB HB2 HB3 HRES HO5
    generalize rd_T120 l1 (i : Int) = x at *
    simp only [vols_Apply.go] at h
    cases hres : vols_at.go x.f0 x.f1 x0 0 with
    | error c =>
     rw [hres] at h
     cases h
    | ok j =>
     rw [hres] at h
     simp only at h
     have HH := a0_ h
     clear h
     go_wp2_with (first | ((with_reducible refine gate_dst (N := 9) rfl ?_); refine box_event ?hg (N := 9) ?hd (cs := #[.int .i64 0, .int .i64 0, .string (⟨#[]⟩ : ByteArray)]) (t := 120) ?hr ?_; (case hd => rfl); (case hg => rfl); (case hr => exact z30_); intro gb hg w5 hbox hb; have HB5 := a0_ (below_step HBw.out hb); have BK := a0_ hbox; have GE := a0_ (z31_ : w.heap.size ≤ gb); have HO5b := a0_ (Kd.S_below (Kd.S_elderB HO.out gb z40_) hb); clear hb hbox hg; have hcz0 : w5.cell? ⟨gb, 0, none⟩ = some (.int .i64 0) := (blk_cell BK.out 0).trans rfl; have hcz1 : w5.cell? ⟨gb, 1, none⟩ = some (.int .i64 0) := (blk_cell BK.out 1).trans rfl; have hcz2 : w5.cell? ⟨gb, 2, none⟩ = some (.string (⟨#[]⟩ : ByteArray)) := (blk_cell BK.out 2).trans rfl; obtain ⟨hfz0, hfz1, hfz2⟩ := bf3_ BK.out) | (go_at_fn 50; refine (vols_at.runS (Kd.S_far (Kd.S_far (Kd.S_far HO5b.out (fun k hk => hk.2) _) (fun k hk => hk.2) _) (fun k hk => hk.2) _) hres (below_set (below_set (below_set HB5.out GE.out) GE.out) GE.out)).mono ?_; rintro e w9 ⟨rfl, hb9, g1, rfl, hfr, ⟨u0, hce⟩, hpb, hS⟩; have HB9 := a0_ hb9; have HS := a0_ hS; have GP := a0_ hpb; clear hb9 hS hpb))
     go_roundw
     case measure => simp [intOf]; omega
     case rel => exact ⟨i + 1, _, z7_, z9_, HH, ⟨Kd.S_mono (HS.out x.f2) (fun _ _ => trivial)⟩, ⟨below_set HB9.out GP.out⟩⟩
   ·obtain rfl : i = l1.length := by omega
    have h := H.out
    rw [List.drop_length] at h
    simp only [vols_Apply.go] at h
    cases h
    go_wp2
    go_ret2
    exact ⟨_, rfl, HO.out, HBw.out⟩
 ·rw [if_neg hb0] at hr
  cases hr
  go_wp2_with (go_at_fn 48; (refine (vols_Check.calls k _ _ l0 _ _ l1 _ _ HR0.out HC0.out HR1.out HC1.out A2.out).mono ?_); rintro e w4 ⟨rfl, hb⟩; have HB2 := a0_ (below_step HB.out hb); clear hb)
  go_ret2
  exact ⟨_, rfl, Kd.S_nil _ _ _ _ _, HB2.out⟩
def queue_tail.f (l0_0 : List (S51)) (l0_1 : List (S120)) (a0_2 : Int) (a0_3 : Int) : Option (Int) := if (l0_0.length : Int) > 0 then (if 0 < (l0_0.length : Int) then (some ((rd_T51 l0_0 0).f0)) else (none)) else (some a0_2)
set_option maxHeartbeats 8000000 in
set_option maxRecDepth 100000 in
theorem queue_tail.calls (A0_0 : Option Addr) (c0_0 : Nat) (l0_0 : List (S51)) (A0_1 : Option Addr) (c0_1 : Nat) (l0_1 : List (S120)) (a0_2 : Int) (a0_3 : Int) (r : Int) (w : World) (hr0_0 : Kd.C k51 w A0_0 l0_0.length l0_0) (hc0_0 : l0_0.length ≤ c0_0) (hr0_1 : Kd.C k120 w A0_1 l0_1.length l0_1) (hc0_1 : l0_1.length ≤ c0_1) (h : queue_tail.f l0_0 l0_1 a0_2 a0_3 = some r) :
  Calls Try.prog 57 #[.agg #[.slice A0_0 l0_0.length c0_0, .slice A0_1 l0_1.length c0_1, .int .i64 a0_2, .int .i64 a0_3]] w fun e w' => e = .returned (.int .i64 r) ∧ Below w.heap.size w w' := by
 have hu68 := Try.underlying68
 have HR0_0 := a0_ hr0_0
 have HC0_0 := a0_ hc0_0
 clear hr0_0 hc0_0
 have HR0_1 := a0_ hr0_1
 have HC0_1 := a0_ hc0_1
 clear hr0_1 hc0_1
 have HB := a0_ (Below.refl w.heap.size w)
 have H : (if (l0_0.length : Int) > 0 then (if 0 < (l0_0.length : Int) then (some ((rd_T51 l0_0 0).f0)) else (none)) else (some a0_2)) = some r := h
 clear h
 by_cases c2 : (l0_0.length : Int) > 0
 ·rw [if_pos c2] at H
  have c2b0 : decide (0 < (l0_0.length : Int)) = true := decide_eq_true c2
  have c2b1 : decide (0 < l0_0.length) = true := decide_eq_true z7_
  clear c2
  by_cases c3 : 0 < (l0_0.length : Int)
  ·rw [if_pos c3] at H
   have c3b0 : decide (0 < (l0_0.length : Int)) = true := decide_eq_true c3
   have c3b1 : decide (0 < l0_0.length) = true := decide_eq_true z7_
   clear c3
   obtain rfl := Option.some.inj H
   go_enter Try.func57, Try.ntmps57
   go_wp2_with (first | ((with_reducible refine gate_dst (N := 1) rfl ?_); refine box_event ?hg (N := 1) ?hd (cs := #[.slice A0_0 l0_0.length c0_0, .slice A0_1 l0_1.length c0_1, .int .i64 a0_2, .int .i64 a0_3]) (t := 68) ?hr ?_; (case hd => rfl); (case hg => rfl); (case hr => exact z11_); intro gb118 hg w4 hbox hb; have n0_ := a0_ (below_step z3_ hb); have n1_ := a0_ (hbox); have n2_ := a0_ ((z12_ : w.heap.size ≤ gb118)); have n3_ := a0_ ((z12_ : w.heap.size ≤ gb118)); clear HB; have HB := n0_; have BK118 := n1_; have GW118 := n2_; have GE118 := n3_; clear n0_ n1_ n2_ n3_; clear hb hbox hg; have hcz5_0 : w4.cell? ⟨gb118, 0, none⟩ = some (.slice A0_0 l0_0.length c0_0) := (blk_cell BK118.out 0).trans rfl; have hcz5_1 : w4.cell? ⟨gb118, 1, none⟩ = some (.slice A0_1 l0_1.length c0_1) := (blk_cell BK118.out 1).trans rfl; have hcz5_2 : w4.cell? ⟨gb118, 2, none⟩ = some (.int .i64 a0_2) := (blk_cell BK118.out 2).trans rfl; have hcz5_3 : w4.cell? ⟨gb118, 3, none⟩ = some (.int .i64 a0_3) := (blk_cell BK118.out 3).trans rfl; obtain ⟨hfz5_0, hfz5_1, hfz5_2, hfz5_3⟩ := bf4_ BK118.out; have p119 : 0 ≤ (0 : Int) := z7_; have q119 : 0 < (l0_0.length : Int) := of_decide_eq_true z10_; obtain ⟨ad119, A119_2, c119_2, e119, hx119_0, hx119_1, hx119_2, hl119_2, hi119_2⟩ := at_T51 HR0_0.out 0 p119 q119; cases e119; have qi119 : (0 < l0_0.length) = True := eq_true z7_; (try rw [show ((0 : Int)).toNat = 0 from rfl] at hx119_0); (try rw [show 0 * 3 = 0 from rfl] at hx119_0); (try rw [Addr.add_zero'] at hx119_0); (try rw [show ((0 : Int)).toNat = 0 from rfl] at hx119_1); (try rw [show 0 * 3 = 0 from rfl] at hx119_1); (try rw [Addr.add_zero'] at hx119_1); (try rw [show ((0 : Int)).toNat = 0 from rfl] at hx119_2); (try rw [show 0 * 3 = 0 from rfl] at hx119_2); (try rw [Addr.add_zero'] at hx119_2); replace hx119_0 := (HB.out.cell (World.block_lt_of_cell? w _ hx119_0)).trans hx119_0; replace hx119_1 := (HB.out.cell (World.block_lt_of_cell? w _ hx119_1)).trans hx119_1; replace hx119_2 := (HB.out.cell (World.block_lt_of_cell? w _ hx119_2)).trans hx119_2; have HR119_2 := a0_ hi119_2; have HC119_2 := a0_ hl119_2; clear hi119_2 hl119_2; replace p119 := eq_true p119; replace q119 := eq_true q119))
   go_ret
   exact ⟨z2_, z41_⟩
  ·rw [if_neg c3] at H
   exact absurd H (by simp)
 ·rw [if_neg c2] at H
  have c2b0 : decide (0 < (l0_0.length : Int)) = false := decide_eq_false c2
  have c2b1 : decide (0 < l0_0.length) = false := decide_eq_false z7_
  clear c2
  obtain rfl := Option.some.inj H
  go_enter Try.func57, Try.ntmps57
  go_wp2_with (first | ((with_reducible refine gate_dst (N := 1) rfl ?_); refine box_event ?hg (N := 1) ?hd (cs := #[.slice A0_0 l0_0.length c0_0, .slice A0_1 l0_1.length c0_1, .int .i64 a0_2, .int .i64 a0_3]) (t := 68) ?hr ?_; (case hd => rfl); (case hg => rfl); (case hr => exact z11_); intro gb118 hg w6 hbox hb; have n0_ := a0_ (below_step z3_ hb); have n1_ := a0_ (hbox); have n2_ := a0_ ((z12_ : w.heap.size ≤ gb118)); have n3_ := a0_ ((z12_ : w.heap.size ≤ gb118)); clear HB; have HB := n0_; have BK118 := n1_; have GW118 := n2_; have GE118 := n3_; clear n0_ n1_ n2_ n3_; clear hb hbox hg; have hcz7_0 : w6.cell? ⟨gb118, 0, none⟩ = some (.slice A0_0 l0_0.length c0_0) := (blk_cell BK118.out 0).trans rfl; have hcz7_1 : w6.cell? ⟨gb118, 1, none⟩ = some (.slice A0_1 l0_1.length c0_1) := (blk_cell BK118.out 1).trans rfl; have hcz7_2 : w6.cell? ⟨gb118, 2, none⟩ = some (.int .i64 a0_2) := (blk_cell BK118.out 2).trans rfl; have hcz7_3 : w6.cell? ⟨gb118, 3, none⟩ = some (.int .i64 a0_3) := (blk_cell BK118.out 3).trans rfl; obtain ⟨hfz7_0, hfz7_1, hfz7_2, hfz7_3⟩ := bf4_ BK118.out))
  go_ret
  exact ⟨z2_, z41_⟩
def cmp_Or_int.l0 : Nat → Int → List Int → Int → Int → Option (Int)
 | 0, _, _, _, _ => none
 | k + 1, x3, x6, x7, x8 => if x8 < x7 then (if 0 ≤ x8 then (if x8 < (x6.length : Int) then (if (rd x6 x8) = x3 then (cmp_Or_int.l0 k x3 x6 x7 (wrap64 (x8 + 1))) else (some (rd x6 x8))) else (none)) else (none)) else (some x3)
def cmp_Or_int.f (k : Nat) (l0 : List Int) : Option (Int) := cmp_Or_int.l0 k 0 l0 (l0.length : Int) 0
set_option maxHeartbeats 8000000 in
set_option maxRecDepth 100000 in
theorem cmp_Or_int.calls (k : Nat) (A0 : Option Addr) (c0 : Nat) (l0 : List Int) (r : Int) (w : World) (hr0 : Kd.C (Kd.int .i64) w A0 l0.length l0) (hc0 : l0.length ≤ c0) (h : cmp_Or_int.f k l0 = some r) :
  Calls Try.prog 109 #[.slice A0 l0.length c0] w fun e w' => e = .returned (.int .i64 r) ∧ Drawn0 w w' := by
 have HR0 := a0_ hr0
 have HC0 := a0_ hc0
 clear hr0 hc0
 have H : (cmp_Or_int.l0 k 0 l0 (l0.length : Int) 0) = some r := h
 clear h
 have H' := a0_ H
 clear H
 go_enter Try.func109, Try.ntmps109
 go_wp2
 go_loopg [8] k (fun kq v8 w' => ∃ (x8_1 : Int), v8 = .int .i64 x8_1 ∧ Aside0 (cmp_Or_int.l0 kq 0 l0 (l0.length : Int) x8_1 = some r) ∧ Aside0 (kq ≤ k) ∧ Drawn0 w w')
 case atStart => exact ⟨(0), z4_, H', ⟨Nat.le_refl _⟩, z5_⟩
 case round =>
  clear H'
  obtain ⟨x8_1, rfl, HA, HK1, ⟨m1, rfl⟩⟩ := hrel
  cases gk with
  | zero => exact absurd HA.out (by simp [cmp_Or_int.l0])
  | succ k1 =>
   have H := HA.out
   clear HA
   simp only [cmp_Or_int.l0] at H
   by_cases c2 : x8_1 < (l0.length : Int)
   ·rw [if_pos c2] at H
    have c2b0 : decide (x8_1 < (l0.length : Int)) = true := decide_eq_true c2
    clear c2
    by_cases c3 : 0 ≤ x8_1
    ·rw [if_pos c3] at H
     have c3b0 : decide (0 ≤ x8_1) = true := decide_eq_true c3
     clear c3
     by_cases c4 : x8_1 < (l0.length : Int)
     ·rw [if_pos c4] at H
      have c4b0 : decide (x8_1 < (l0.length : Int)) = true := decide_eq_true c4
      clear c4
      by_cases c5 : (rd l0 x8_1) = 0
      ·rw [if_pos c5] at H
       have c5b0 : ((rd l0 x8_1) == 0) = true := beq_iff_eq.mpr c5
       have c5b1 : ((rd l0 x8_1) != 0) = false := bne_eq_false_iff_eq.mpr c5
       clear c5
       have H' := a0_ H
       clear H
       have p120 : 0 ≤ (x8_1 : Int) := of_decide_eq_true z10_
       have q120 : x8_1 < (l0.length : Int) := of_decide_eq_true z10_
       obtain ⟨ad120, e120, hx120_0⟩ := Kd.at_int HR0.out x8_1 p120 q120
       cases e120
       replace p120 := eq_true p120
       replace q120 := eq_true q120
       go_wp2
       go_roundg k1
       case measure => have := HK1.out; omega
       case rel => exact ⟨(wrap64 (x8_1 + 1)), z4_, H', ⟨z39_⟩, z5_⟩
      ·rw [if_neg c5] at H
       have c5b0 : ((rd l0 x8_1) == 0) = false := beq_eq_false_iff_ne.mpr c5
       have c5b1 : ((rd l0 x8_1) != 0) = true := bne_iff_ne.mpr c5
       obtain rfl := Option.some.inj H
       have p120 : 0 ≤ (x8_1 : Int) := of_decide_eq_true z10_
       have q120 : x8_1 < (l0.length : Int) := of_decide_eq_true z10_
       obtain ⟨ad120, e120, hx120_0⟩ := Kd.at_int HR0.out x8_1 p120 q120
       cases e120
       replace p120 := eq_true p120
       replace q120 := eq_true q120
       go_wp2
       go_ret
       exact ⟨z4_, z5_⟩
     ·rw [if_neg c4] at H
      exact absurd H (by simp)
    ·rw [if_neg c3] at H
     exact absurd H (by simp)
   ·rw [if_neg c2] at H
    have c2b0 : decide (x8_1 < (l0.length : Int)) = false := decide_eq_false c2
    clear c2
    obtain rfl := Option.some.inj H
    go_wp2
    go_ret
    exact ⟨z4_, z5_⟩
def cmp_isNaN_int.f (a0 : Int) : Option (Bool) := some (a0 != a0)
set_option maxHeartbeats 8000000 in
set_option maxRecDepth 100000 in
theorem cmp_isNaN_int.calls (a0 : Int) (r : Bool) (w : World) (h : cmp_isNaN_int.f a0 = some r) :
  Calls Try.prog 117 #[.int .i64 a0] w fun e w' => e = .returned (.bool r) ∧ Drawn0 w w' := by
 have H : (some (a0 != a0)) = some r := h
 clear h
 obtain rfl := Option.some.inj H
 go_enter Try.func117, Try.ntmps117
 go_wp2
 go_ret
 exact ⟨z4_, z5_⟩
end Go.Proofs.Ytecfndblgefhdaa.R
