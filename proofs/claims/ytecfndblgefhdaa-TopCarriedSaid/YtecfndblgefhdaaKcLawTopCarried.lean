import Derived.Test.YtecfndblgefhdaaRows
import Derived.Test.YtecfndblgefhdaaKcMsgE
import Derived.Test.YtecfndblgefhdaaKcWSized
namespace Go.Proofs.Ytecfndblgefhdaa.topCarried
open Go.ChangeShapes Go.WideShapes Go.ChangeAt Go.RowKit Go.Proofs.YtecfndblgefhdaaW.PrintWords Go.Proofs.YtecfndblgefhdaaW.PrintLast
open Go.ChangeMaps (open_string shut_string)
set_option linter.unusedVariables false
theorem own : ownKnob Try.prog.godebug = none := by kernel_rfl
theorem laidOut : laidOutB Try.prog = true := by kernel_rfl
set_option maxRecDepth 100000 in
theorem lifted (os : Os) (started : os.Started) (H : Type) (enc : TypeId × Value → H) :
  ReturnsInHanded {} Try.checked os 3 .any (Rows.topCarriedSpec.pre6 enc Try.prog Try.f3 Rows.topCarriedRow.domain false) (Rows.topCarriedSpec.post enc Try.prog Try.f3 false true false false) := by
 refine returnsInHanded_of_change_sized (C := Try.checked) own started (by kernel_rfl) Try.func3
  (ChangeSpec.witness6 (enc := enc) (C := Try.checked) false ⟨#[], #[(.slice none 0 0), (.int .i64 0), (.slice none 0 0)], []⟩ 8 (by kernel_rfl) (by kernel_rfl) (by kernel_rfl) (by kernel_rfl)) ?_
 intro W base args ds gs before hval0 hW hcnd hsz0 _
 have hsz : (DataW.weightsEach Try.prog (Try.f3.params.toList ++ Rows.topCarriedSpec.plain.varTypes Try.prog) (ds ++ gs)).all (· ≤ reachBytes) = true := hsz0
 have hval : ∀ (j : Nat) t v, Try.f3.params[j]? = some t → args[j]? = some v → Value.okWide Try.prog W .any base t v := hval0
 have hW' := hW
 obtain ⟨p, q, hA0, hV, rfl, hfz, hnd⟩ := hW
 have hA : DataW.TrodAll enc Try.prog W 0 (fun _ => true) true Try.f3.params.toList args.toList ds p := hA0
 rw [Try.params3] at hA hval hsz
 obtain ⟨v0, vs0, d0, ds0, p0, q0, hargs, rfl, rfl, h0, r0⟩ := trodAll_cons hA
 obtain ⟨v1, vs1, d1, ds1, p1, q1, rfl, rfl, rfl, h1, r1⟩ := trodAll_cons r0
 obtain ⟨v2, vs2, d2, ds2, p2, q2, rfl, rfl, rfl, h2, r2⟩ := trodAll_cons r1
 obtain ⟨rfl, rfl, rfl⟩ := trodAll_nil r2
 obtain rfl : args = #[v0, v1, v2] := by cases args; simp_all
 obtain ⟨rfl, rfl⟩ := trodVars_none hV
 obtain ⟨a0, len0, cap0, rfl⟩ := okWide_slice Try.underlying22 (hval 0 22 v0 rfl rfl)
 have k0 := h0
 have lt0 : ∀ x ∈ p0, x.block < W.heap.size := by obtain ⟨m, hm⟩ := k0; exact DataW.trod_lt m _ _ _ hm
 obtain ⟨x0, K0, g0⟩ : ∃ x, (Kd.slice 53 P.k53).K W x [.slice a0 len0 cap0] ∧ (x.length * 192 ≤ 140737488351232 ∧ x.length ≤ 9223372036854775807 ∧ ∀ y0 ∈ x, ((Lit.int .i64 y0.f0).wf = true ∧ (Lit.int .i64 y0.f1).wf = true ∧ (y0.f2.length * 16 ≤ 140737488351232 ∧ y0.f2.length ≤ 9223372036854775807 ∧ ∀ y1 ∈ y0.f2, ((Lit.int .i64 y1.f0).wf = true ∧ (Lit.int .i64 y1.f1).wf = true)) ∧ (Lit.int .i64 y0.f3).wf = true ∧ (Lit.int .i64 y0.f4).wf = true ∧ (Lit.int .i64 y0.f5).wf = true ∧ True ∧ ((y0.f7.f0.length * 16 ≤ 140737488351232 ∧ y0.f7.f0.length ≤ 9223372036854775807 ∧ ∀ y1 ∈ y0.f7.f0, ((Lit.int .i64 y1.f0).wf = true ∧ (Lit.int .i64 y1.f1).wf = true)) ∧ (Lit.int .i64 y0.f7.f1).wf = true) ∧ (y0.f8.length * 16 ≤ 140737488351232 ∧ y0.f8.length ≤ 9223372036854775807 ∧ ∀ y1 ∈ y0.f8, ((Lit.int .i64 y1.f0).wf = true ∧ (Lit.int .u64 y1.f1).wf = true)) ∧ (y0.f9.length * 8 ≤ 140737488351232 ∧ y0.f9.length ≤ 9223372036854775807 ∧ ∀ y1 ∈ y0.f9, (Lit.int .i64 y1).wf = true) ∧ ((Lit.int .i64 y0.f10.f0).wf = true ∧ (Lit.int .i64 y0.f10.f1).wf = true ∧ (y0.f10.f2.length * 32 ≤ 140737488351232 ∧ y0.f10.f2.length ≤ 9223372036854775807 ∧ ∀ y1 ∈ y0.f10.f2, ((Lit.int .i64 y1.f0).wf = true ∧ (Lit.int .i64 y1.f1).wf = true ∧ y1.f2.size ≤ 140737488351232))))) := by
  obtain ⟨fuel, hf⟩ := h0
  exact (XOpen.opens_slice Try.underlying22 (by kernel_rfl) 192 (by kernel_rfl) (XOpen.opens_iso (fun x : P.S53 => (x.f0, x.f1, x.f2, x.f3, x.f4, x.f5, x.f6, x.f7, x.f8, x.f9, x.f10)) (fun p => (⟨p.1, p.2.1, p.2.2.1, p.2.2.2.1, p.2.2.2.2.1, p.2.2.2.2.2.1, p.2.2.2.2.2.2.1, p.2.2.2.2.2.2.2.1, p.2.2.2.2.2.2.2.2.1, p.2.2.2.2.2.2.2.2.2.1, p.2.2.2.2.2.2.2.2.2.2⟩ : P.S53)) (fun _ => rfl) (XOpen.opens_struct Try.underlying53 (by kernel_rfl) (XOpen.opensF_cons rfl (by kernel_rfl) (XOpen.opens_int Try.underlying3) (XOpen.opensF_cons rfl (by kernel_rfl) (XOpen.opens_int Try.underlying3) (XOpen.opensF_cons rfl (by kernel_rfl) (XOpen.opens_slice Try.underlying44 (by kernel_rfl) 16 (by kernel_rfl) (XOpen.opens_iso (fun x : P.S160 => (x.f0, x.f1)) (fun p => (⟨p.1, p.2⟩ : P.S160)) (fun _ => rfl) (XOpen.opens_struct Try.underlying160 (by kernel_rfl) (XOpen.opensF_cons rfl (by kernel_rfl) (XOpen.opens_int Try.underlying3) (XOpen.opensF_one rfl (by kernel_rfl) (XOpen.opens_int Try.underlying3)))))) (XOpen.opensF_cons rfl (by kernel_rfl) (XOpen.opens_int Try.underlying3) (XOpen.opensF_cons rfl (by kernel_rfl) (XOpen.opens_int Try.underlying3) (XOpen.opensF_cons rfl (by kernel_rfl) (XOpen.opens_int Try.underlying3) (XOpen.opensF_cons rfl (by kernel_rfl) (XOpen.opens_bool Try.underlying4) (XOpen.opensF_cons rfl (by kernel_rfl) (XOpen.opens_iso (fun x : P.S46 => (x.f0, x.f1)) (fun p => (⟨p.1, p.2⟩ : P.S46)) (fun _ => rfl) (XOpen.opens_struct Try.underlying46 (by kernel_rfl) (XOpen.opensF_cons rfl (by kernel_rfl) (XOpen.opens_slice Try.underlying44 (by kernel_rfl) 16 (by kernel_rfl) (XOpen.opens_iso (fun x : P.S160 => (x.f0, x.f1)) (fun p => (⟨p.1, p.2⟩ : P.S160)) (fun _ => rfl) (XOpen.opens_struct Try.underlying160 (by kernel_rfl) (XOpen.opensF_cons rfl (by kernel_rfl) (XOpen.opens_int Try.underlying3) (XOpen.opensF_one rfl (by kernel_rfl) (XOpen.opens_int Try.underlying3)))))) (XOpen.opensF_one rfl (by kernel_rfl) (XOpen.opens_int Try.underlying3))))) (XOpen.opensF_cons rfl (by kernel_rfl) (XOpen.opens_slice Try.underlying47 (by kernel_rfl) 16 (by kernel_rfl) (XOpen.opens_iso (fun x : P.S166 => (x.f0, x.f1)) (fun p => (⟨p.1, p.2⟩ : P.S166)) (fun _ => rfl) (XOpen.opens_struct Try.underlying166 (by kernel_rfl) (XOpen.opensF_cons rfl (by kernel_rfl) (XOpen.opens_int Try.underlying3) (XOpen.opensF_one rfl (by kernel_rfl) (XOpen.opens_int Try.underlying164)))))) (XOpen.opensF_cons rfl (by kernel_rfl) (XOpen.opens_slice Try.underlying48 (by kernel_rfl) 8 (by kernel_rfl) (XOpen.opens_int Try.underlying3)) (XOpen.opensF_one rfl (by kernel_rfl) (XOpen.opens_iso (fun x : P.S51 => (x.f0, x.f1, x.f2)) (fun p => (⟨p.1, p.2.1, p.2.2⟩ : P.S51)) (fun _ => rfl) (XOpen.opens_struct Try.underlying51 (by kernel_rfl) (XOpen.opensF_cons rfl (by kernel_rfl) (XOpen.opens_int Try.underlying3) (XOpen.opensF_cons rfl (by kernel_rfl) (XOpen.opens_int Try.underlying3) (XOpen.opensF_one rfl (by kernel_rfl) (XOpen.opens_slice Try.underlying49 (by kernel_rfl) 32 (by kernel_rfl) (XOpen.opens_iso (fun x : P.S120 => (x.f0, x.f1, x.f2)) (fun p => (⟨p.1, p.2.1, p.2.2⟩ : P.S120)) (fun _ => rfl) (XOpen.opens_struct Try.underlying120 (by kernel_rfl) (XOpen.opensF_cons rfl (by kernel_rfl) (XOpen.opens_int Try.underlying3) (XOpen.opensF_cons rfl (by kernel_rfl) (XOpen.opens_int Try.underlying3) (XOpen.opensF_one rfl (by kernel_rfl) (XOpen.opens_string Try.underlying9)))))))))))))))))))))))))) H enc _ _ _ fuel _ _ hf (XOpen.weights_at hsz (j := 0) rfl rfl)
 obtain ⟨A0, c0, e0, hc0, hr0⟩ := K0
 obtain ⟨rfl, rfl, rfl⟩ : a0 = A0 ∧ len0 = x0.length ∧ cap0 = c0 := by simpa using e0
 obtain ⟨a1, rfl, rfl, rfl, w1⟩ := open_int Try.underlying3 (hval 1 3 v1 rfl rfl) h1
 obtain ⟨a2, len2, cap2, rfl⟩ := okWide_slice Try.underlying23 (hval 2 23 v2 rfl rfl)
 have k2 := h2
 have lt2 : ∀ x ∈ p2, x.block < W.heap.size := by obtain ⟨m, hm⟩ := k2; exact DataW.trod_lt m _ _ _ hm
 obtain ⟨x2, K2, g2⟩ : ∃ x, (Kd.slice 42 P.k42).K W x [.slice a2 len2 cap2] ∧ (x.length * 16 ≤ 140737488351232 ∧ x.length ≤ 9223372036854775807 ∧ ∀ y0 ∈ x, ((Lit.int .i64 y0.f0).wf = true ∧ (Lit.int .i64 y0.f1).wf = true)) := by
  obtain ⟨fuel, hf⟩ := h2
  exact (XOpen.opens_slice Try.underlying23 (by kernel_rfl) 16 (by kernel_rfl) (XOpen.opens_iso (fun x : P.S42 => (x.f0, x.f1)) (fun p => (⟨p.1, p.2⟩ : P.S42)) (fun _ => rfl) (XOpen.opens_struct Try.underlying42 (by kernel_rfl) (XOpen.opensF_cons rfl (by kernel_rfl) (XOpen.opens_int Try.underlying3) (XOpen.opensF_one rfl (by kernel_rfl) (XOpen.opens_int Try.underlying3)))))) H enc _ _ _ fuel _ _ hf (XOpen.weights_at hsz (j := 2) rfl rfl)
 obtain ⟨A2, c2, e2, hc2, hr2⟩ := K2
 obtain ⟨rfl, rfl, rfl⟩ : a2 = A2 ∧ len2 = x2.length ∧ cap2 = c2 := by simpa using e2
 clear hA0 hval0 hsz0 hsz
 obtain ⟨k, hP⟩ := Pure.TopCarried x0 a1 x2 g0 w1 g2
 refine (P.counterfoiltop_TopCarried.calls k _ _ x0 a1 _ _ x2 true W hr0 hc0 hr2 hc2 rfl hP).mono fun e W' ⟨he, bel⟩ => ?_
 subst he
 exact ⟨_, rfl, _, _, _, [], _, [], hW', trodAll_mk1 (shut_bool Try.underlying4 _), (trodAll_cons_mk (Below.trod laidOut (by kernel_rfl) (of_decide_eq_true (by kernel_rfl)) k0 bel lt0) (trodAll_cons_mk (shut_int Try.underlying3 w1) (trodAll_cons_mk (Below.trod laidOut (by kernel_rfl) (of_decide_eq_true (by kernel_rfl)) k2 bel lt2) trodAll_mk0))), rfl, bel.frame _, fun h => by cases h⟩
theorem over : Rows.topCarriedRow.holds Try.pinned (OpenSpec.ofChange Rows.topCarriedSpec) :=
 OpenClaim.holds_of_wide 3 Try.f3 rfl rfl rfl rfl rfl rfl rfl ⟨rfl, rfl, rfl, rfl, rfl⟩ rfl rfl rfl rfl rfl (by kernel_rfl) Try.func3 (by kernel_rfl)
  (of_decide_eq_true (by kernel_rfl)) (by unfold Func.isWrapper; first | (rw [if_pos (by decide +kernel)]; kernel_rfl) | (rw [if_neg (by decide +kernel)]; exact ⟨rfl, rfl⟩))
  (fun os started H enc _ => lifted os started H enc)
theorem proved : Rows.TopCarriedSaid := over
#print axioms proved
end Go.Proofs.Ytecfndblgefhdaa.topCarried
namespace Go.Proofs.Ytecfndblgefhdaa
theorem topCarried_holds : Rows.TopCarriedSaid := topCarried.proved
end Go.Proofs.Ytecfndblgefhdaa
