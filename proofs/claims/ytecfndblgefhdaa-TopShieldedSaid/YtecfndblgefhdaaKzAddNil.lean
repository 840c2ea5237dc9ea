import Derived.Test.YtecfndblgefhdaaKzQue
import Derived.Test.YtecfndblgefhdaaKzFlow
set_option linter.unusedVariables false
set_option linter.unusedSimpArgs false
namespace Go.Proofs.Ytecfndblgefhdaa.R
open Go.RowKit Go.Proofs.YtecfndblgefhdaaW.PrintWords Go.Proofs.YtecfndblgefhdaaW.PrintLast Go.Proofs.YtecfndblgefhdaaW.PrintMore
attribute [local go_sem] max2_int min2_int max_two min_two max_three min_three max_four min_four
theorem cloneNil.calls (w : World) : Calls Try.prog 49 #[.slice none 0 0] w fun e w' => e = .returned (.slice none 0 0) ∧ w' = w := by
 go_enter Try.func49, Try.ntmps49
 go_wp2
 go_loopw [3, 5, 8] (fun v3 _ v8 wr => v3 = .slice none 0 0 ∧ v8 = .int .i64 0 ∧ wr = w) (fun _ _ _ _ => 0)
 case atStart => exact ⟨rfl, rfl, rfl⟩
 case round =>
  obtain ⟨rfl, rfl, rfl⟩ := hrel
  go_wp2
  go_ret
  exact ⟨rfl, rfl⟩
theorem searchNil.calls (w : World) : Calls Try.prog 103 #[.slice none 0 0, .int .i64 1, .func (.func 104) #[] #[]] w fun e w' => e = .returned (.tuple #[.int .i64 0, .bool false]) ∧ w' = w := by
 go_enter Try.func103, Try.ntmps103
 go_wp2
 go_loopw [9, 10, 11] (fun v9 v10 _ wr => v9 = .int .i64 0 ∧ v10 = .int .i64 0 ∧ wr = w) (fun _ _ _ _ => 0)
 case atStart => exact ⟨rfl, rfl, rfl⟩
 case round =>
  obtain ⟨rfl, rfl, rfl⟩ := hrel
  go_wp2
  go_ret2
  exact ⟨rfl, rfl⟩
set_option maxHeartbeats 1000000 in
theorem insertNil.calls (A : Option Addr) (c : Nat) (x : S137) (w : World) (hr : Kd.C k137 w A 1 [x]) (hc : 1 ≤ c) :
  Calls Try.prog 86 #[.slice none 0 0, .int .i64 0, .slice A 1 c] w fun e w' => ∃ v, e = .returned v ∧ Rd k137 w' v [x] ∧ Below w.heap.size w w' := by
 have HR := a0_ (Kd.C_F k137_heap hr)
 clear hr
 go_enter Try.func86, Try.ntmps86
 go_wp2_with ((with_reducible refine gate_builtin (b := .append) (xs := #[.tmp 23, .tmp 24]) rfl ?_); at_builtin; refine Kd.N_append_rows k137 (w0 := w) w.heap.size rfl (.tmp 23) (.tmp 24) 59 137 (.agg #[.int .i64 0, .slice none 0 0]) 32 rfl Try.underlying59 info137 rfl (show 0 < k137.sz from z8_) z7_ (.slice none 0 0) [] [x] A 1 c (fun _ => True) (fun k => k < w.heap.size) rfl rfl (Kd.N_nil _ _ _ _ _) HR.out (fun k hk => ⟨trivial, z154_⟩) (fun _ _ => trivial) (Below.refl _ _) (Nat.le_refl _) z8_ ?_; intro v7 w7 ho7 hb7 hg_ hat_; have HO7 := a0_ (Kd.N_reads ho7); have HB7 := a0_ hb7; clear ho7 hb7 hg_ hat_)
 go_ret
 exact ⟨_, rfl, HO7.out, HB7.out⟩
def emptyVol : S137 := ⟨1, [⟨#[]⟩, ⟨#[]⟩]⟩
def mrRd {α : Type} (d : Kd α) (xs : List α) : Flow.MR := ⟨fun w v => Rd d w v xs, fun _ _ _ hb h => h.below hb⟩
def mrAgg : Flow.MR := ⟨fun w x => ∃ v, x = .agg #[.int .i64 1, v] ∧ Rd Kd.string w v [⟨#[]⟩, ⟨#[]⟩], fun _ _ _ hb h => by obtain ⟨v, h1, h2⟩ := h; exact ⟨v, h1, h2.below hb⟩⟩
theorem findNil.calls (w : World) : Calls Try.prog 85 #[.slice none 0 0, .int .i64 1] w fun e w' => e = .returned (.tuple #[.int .i64 0, .bool false]) ∧ w' = w := by
 have eg1 : ∀ args w, (callFunc 103 args).run Try.prog w = .ok (.enter 103 args) w := enters_of Try.func103 z6_ rfl
 go_enter Try.func85, Try.ntmps85
 go_wp2_with (go_at_fn 103; refine (searchNil.calls _).mono ?_; rintro e w2 ⟨rfl, rfl⟩)
 go_ret2
 exact ⟨rfl, rfl⟩
set_option maxHeartbeats 4000000 in
set_option maxRecDepth 100000 in
theorem addNil.calls (w : World) : Calls Try.prog 45 #[.slice none 0 0, .int .i64 1, .int .i64 2] w fun e w' => ∃ v, e = .returned (.tuple #[v, .int .i64 0]) ∧ Rd k137 w' v [emptyVol] ∧ Below w.heap.size w w' := by
 have HB := a0_ (Below.refl w.heap.size w)
 have eg1 : ∀ args w, (callFunc 44 args).run Try.prog w = .ok (.enter 44 args) w := enters_of Try.func44 z6_ rfl
 have eg2 : ∀ args w, (callFunc 82 args).run Try.prog w = .ok (.enter 82 args) w := enters_of Try.func82 z6_ rfl
 have eg3 : ∀ args w, (callFunc 85 args).run Try.prog w = .ok (.enter 85 args) w := enters_of Try.func85 z6_ rfl
 go_enter Try.func45, Try.ntmps45
 go_upto_block 0 with (first | (go_at_fn 44; refine (vols_Right.calls 5 none 0 [] true _ (Kd.C_nil _ _) (Nat.le_refl _) rfl).mono ?_; rintro e w1 ⟨rfl, hb⟩; replace HB := a0_ (below_step HB.out hb); clear hb) | (go_at_fn 82; refine (vols_size.calls 2 true _ rfl).mono ?_; rintro e w2 ⟨rfl, hd⟩; replace HB := a0_ (below_step HB.out hd.below); clear hd) | (go_at_fn 85; refine (findNil.calls _).mono ?_; rintro e w3 ⟨rfl, rfl⟩))
 go_upto_region 8 with fail
 refine Flow.flowL 47 rfl rfl z6_ z6_ [Flow.MR.is (.slice none 0 0), Flow.MR.is (.slice none 0 0), Flow.MR.is (.int .i64 0), Flow.MR.is (.int .i64 1), Flow.MR.is (.int .i64 2), mrRd Kd.string [⟨#[]⟩, ⟨#[]⟩], mrAgg, mrRd k137 [emptyVol], mrRd k137 [emptyVol], mrRd k137 [emptyVol], Flow.MR.is (.int .i64 0)] ⟨?_, ?_, ?_, ?_, ?_, ?_, ?_, ?_, ?_, ?_, ?_, trivial⟩ ?_
 ·intro a w' hbel hout hdep K hK
  have d0 : a.tmps.getD 0 undef = (.slice none 0 0 : Value) := (hout 0 z6_).trans rfl
  rw [Array.getD_eq_getD_getElem?] at d0
  refine value_ (w1 := w') (v := .slice none 0 0) rfl rfl ?_ (hK.out _ _ (Below.refl _ _) rfl)
  (first | (go_simp; done) | (go_simp; rfl) | (unfold execOp; go_simp; rfl))
 ·intro a w' hbel hout hdep K hK
  have d38 : (a.tmps.getD 38 undef) = (.slice none 0 0 : Value) := hdep 0 _ rfl rfl _ 38 rfl rfl
  refine goes_ Try.func49 z6_ rfl #[.slice none 0 0] rfl rfl rfl (by simp only [List.map_toArray, List.map_cons, List.map_nil, Act.eval]; rw [d38]) ?_
  refine (cloneNil.calls w').mono ?_
  rintro e w2 ⟨rfl, rfl⟩
  exact ⟨_, rfl, hK.out _ _ (Below.refl _ _) rfl⟩
 ·intro a w' hbel hout hdep K hK
  have d8 : a.tmps.getD 8 undef = (.int .i64 0 : Value) := (hout 8 z6_).trans rfl
  rw [Array.getD_eq_getD_getElem?] at d8
  refine value_ (w1 := w') (v := .int .i64 0) rfl rfl ?_ (hK.out _ _ (Below.refl _ _) rfl)
  (first | (go_simp; done) | (go_simp; rfl) | (unfold execOp; go_simp; rfl))
 ·intro a w' hbel hout hdep K hK
  have d1 : a.tmps.getD 1 undef = (.int .i64 1 : Value) := (hout 1 z6_).trans rfl
  rw [Array.getD_eq_getD_getElem?] at d1
  refine value_ (w1 := w') (v := .int .i64 1) rfl rfl ?_ (hK.out _ _ (Below.refl _ _) rfl)
  (first | (go_simp; done) | (go_simp; rfl) | (unfold execOp; go_simp; rfl))
 ·intro a w' hbel hout hdep K hK
  have d2 : a.tmps.getD 2 undef = (.int .i64 2 : Value) := (hout 2 z6_).trans rfl
  rw [Array.getD_eq_getD_getElem?] at d2
  refine value_ (w1 := w') (v := .int .i64 2) rfl rfl ?_ (hK.out _ _ (Below.refl _ _) rfl)
  (first | (go_simp; done) | (go_simp; rfl) | (unfold execOp; go_simp; rfl))
 ·intro a w' hbel hout hdep K hK
  have d42 : (a.tmps.getD 42 undef) = (.int .i64 2 : Value) := hdep 0 _ rfl rfl _ 42 rfl rfl
  refine Kd.R_make_step Kd.string (w0 := w') w'.heap.size 9 rfl (N := 43) rfl 24 (.tmp 42) (.tmp 42) rfl 2 d42 d42 Try.underlying24 (.string ⟨#[]⟩) 16 z6_ rfl z8_ z8_ (⟨#[]⟩ : ByteArray) (okp := fun _ => True) (ok := fun _ => True) rfl (fun _ _ => trivial) trivial z8_ z8_ (Below.refl _ _) (Nat.le_refl _) ?_
  intro v1 w2 h1 h2 h3 h4
  exact hK.out _ _ h2 (Kd.R_reads h1)
 ·intro a w' hbel hout hdep K hK
  have d41 : (a.tmps.getD 41 undef) = (.int .i64 1 : Value) := hdep 0 _ rfl rfl _ 41 rfl rfl
  have d43 : Rd Kd.string w' (a.tmps.getD 43 undef) [⟨#[]⟩, ⟨#[]⟩] := hdep 1 _ rfl rfl _ 43 rfl rfl
  obtain ⟨A, c, hv, hc, hC⟩ := d43
  rw [Array.getD_eq_getD_getElem?] at d41 hv
  refine value_ (w1 := w') (v := .agg #[.int .i64 1, .slice A 2 c]) rfl rfl ?_ (hK.out _ _ (Below.refl _ _) ⟨_, rfl, A, c, rfl, hc, hC⟩)
  clear hC hc
  (first | (go_simp; done) | (go_simp; rfl) | (unfold execOp; go_simp; rfl))
 ·intro a w' hbel hout hdep K hK
  have d44 : ∃ v, (a.tmps.getD 44 undef) = .agg #[.int .i64 1, v] ∧ Rd Kd.string w' v [⟨#[]⟩, ⟨#[]⟩] := hdep 0 _ rfl rfl _ 44 rfl rfl
  obtain ⟨v, hv, A, c, rfl, hc, hC⟩ := d44
  rw [Array.getD_eq_getD_getElem?] at hv
  refine Kd.N_lit_step k137 (w0 := w') w'.heap.size 137 rfl (N' := 45) rfl (xs := [emptyVol]) (inner := [.int .i64 1, .slice A 2 c]) (ok := fun _ => True) (okp := fun k => k < w'.heap.size) ?hr ((Reps.none _ _).snoc (k137_mkF w' _ emptyVol hc (Kd.C_F Kd.heap_string hC)) rfl) (fun _ _ => trivial) trivial (Below.refl _ _) (Nat.le_refl _) z8_ ?_
  (case hr => clear hC hc; (first | (go_simp; done) | (go_simp; rfl) | (unfold execOp; go_simp; rfl)))
  intro v1 w2 h1 h2 h3 h4
  exact hK.out _ _ h2 (Kd.N_reads h1)
 ·intro a w' hbel hout hdep K hK
  have d39 : (a.tmps.getD 39 undef) = (.slice none 0 0 : Value) := hdep 0 _ rfl rfl _ 39 rfl rfl
  have d40 : (a.tmps.getD 40 undef) = (.int .i64 0 : Value) := hdep 1 _ rfl rfl _ 40 rfl rfl
  have d45 : Rd k137 w' (a.tmps.getD 45 undef) [emptyVol] := hdep 2 _ rfl rfl _ 45 rfl rfl
  obtain ⟨A, c, hv, hc, hC⟩ := d45
  refine goes_ Try.func86 z6_ rfl #[.slice none 0 0, .int .i64 0, .slice A 1 c] rfl rfl rfl (by simp only [List.map_toArray, List.map_cons, List.map_nil, Act.eval]; rw [hv, d39, d40]; rfl) ?_
  refine (insertNil.calls A c emptyVol w' hC hc).mono ?_
  rintro e w2 ⟨v, rfl, h1, h2⟩
  exact ⟨_, rfl, hK.out _ _ h2 h1⟩
 ·intro a w' hbel hout hdep K hK
  have d46 : Rd k137 w' (a.tmps.getD 46 undef) [emptyVol] := hdep 0 _ rfl rfl _ 46 rfl rfl
  obtain ⟨A, c, hv, hc, hC⟩ := d46
  rw [Array.getD_eq_getD_getElem?] at hv
  refine value_ (w1 := w') (v := .slice A 1 c) rfl rfl ?_ (hK.out _ _ (Below.refl _ _) ⟨A, c, rfl, hc, hC⟩)
  clear hC hc
  (first | (go_simp; done) | (go_simp; rfl) | (unfold execOp; go_simp; rfl))
 ·intro a w' hbel hout hdep K hK
  refine value_ (w1 := w') (v := .int .i64 0) rfl rfl ?_ (hK.out _ _ (Below.refl _ _) rfl)
  (first | (go_simp; done) | (go_simp; rfl) | (unfold execOp; go_simp; rfl))
 ·intro a w' hbel hds hall
  have r6 : Rd k137 w' (a.tmps.getD 6 undef) [emptyVol] := hall 9 _ 6 rfl rfl
  have r7 : a.tmps.getD 7 undef = (.int .i64 0 : Value) := hall 10 _ 7 rfl rfl
  have HR6 := a0_ r6
  have HR7 := a0_ r7
  clear r6 r7
  go_wp2
  refine bodyPost_ret (results_tmp2 rfl _ _ _) (hds.trans rfl) ?_
  rw [HR7.out]
  exact ⟨_, rfl, HR6.out, below_step (below_drew1 HB.out) hbel⟩
end Go.Proofs.Ytecfndblgefhdaa.R
