import Derived.Test.YtecfndblgefhdaaRows
import Derived.Test.YtecfndblgefhdaaKzOpen
import Derived.Test.YtecfndblgefhdaaKzPureTopShielded
import Derived.Test.YtecfndblgefhdaaKzWSized
namespace Go.Proofs.Ytecfndblgefhdaa.topShielded
open Go.ChangeShapes Go.WideShapes Go.ChangeAt Go.RowKit Go.Proofs.YtecfndblgefhdaaW.PrintWords Go.Proofs.YtecfndblgefhdaaW.PrintLast
open Go.ChangeMaps (open_string shut_string)
set_option linter.unusedVariables false
theorem own : ownKnob Try.prog.godebug = none := by kernel_rfl
theorem laidOut : laidOutB Try.prog = true := by kernel_rfl
set_option maxRecDepth 100000 in
theorem lifted (os : Os) (started : os.Started) (H : Type) (enc : TypeId × Value → H) :
  ReturnsInHanded {} Try.checked os 5 .any (Rows.topShieldedSpec.pre6 enc Try.prog Try.f5 Rows.topShieldedRow.domain false) (Rows.topShieldedSpec.post enc Try.prog Try.f5 false true false false) := by
 refine returnsInHanded_of_change_sized (C := Try.checked) own started (by kernel_rfl) Try.func5
  (ChangeSpec.witness6 (enc := enc) (C := Try.checked) false ⟨#[], #[(.slice none 0 0), (.slice none 0 0), (.slice none 0 0), (.int .i64 0)], []⟩ 8 (by kernel_rfl) (by kernel_rfl) (by kernel_rfl) (by kernel_rfl)) ?_
 intro W base args ds gs before hval0 hW hcnd hsz0 _
 have hsz : (DataW.weightsEach Try.prog (Try.f5.params.toList ++ Rows.topShieldedSpec.plain.varTypes Try.prog) (ds ++ gs)).all (· ≤ reachBytes) = true := hsz0
 have hval : ∀ (j : Nat) t v, Try.f5.params[j]? = some t → args[j]? = some v → Value.okWide Try.prog W .any base t v := hval0
 have hW' := hW
 obtain ⟨p, q, hA0, hV, rfl, hfz, hnd⟩ := hW
 have hA : DataW.TrodAll enc Try.prog W 0 (fun _ => true) true Try.f5.params.toList args.toList ds p := hA0
 rw [Try.params5] at hA hval hsz
 obtain ⟨v0, vs0, d0, ds0, p0, q0, hargs, rfl, rfl, h0, r0⟩ := trodAll_cons hA
 obtain ⟨v1, vs1, d1, ds1, p1, q1, rfl, rfl, rfl, h1, r1⟩ := trodAll_cons r0
 obtain ⟨v2, vs2, d2, ds2, p2, q2, rfl, rfl, rfl, h2, r2⟩ := trodAll_cons r1
 obtain ⟨v3, vs3, d3, ds3, p3, q3, rfl, rfl, rfl, h3, r3⟩ := trodAll_cons r2
 obtain ⟨rfl, rfl, rfl⟩ := trodAll_nil r3
 obtain rfl : args = #[v0, v1, v2, v3] := by cases args; simp_all
 obtain ⟨rfl, rfl⟩ := trodVars_none hV
 obtain ⟨a0, len0, cap0, rfl⟩ := okWide_slice Try.underlying59 (hval 0 59 v0 rfl rfl)
 have k0 := h0
 have lt0 : ∀ x ∈ p0, x.block < W.heap.size := by obtain ⟨m, hm⟩ := k0; exact DataW.trod_lt m _ _ _ hm
 obtain ⟨x0, K0, g0⟩ : ∃ x, (Kd.slice 137 R.k137).K W x [.slice a0 len0 cap0] ∧ (x.length * 32 ≤ 140737488351232 ∧ x.length ≤ 9223372036854775807 ∧ ∀ y0 ∈ x, ((Lit.int .i64 y0.f0).wf = true ∧ (y0.f1.length * 16 ≤ 140737488351232 ∧ y0.f1.length ≤ 9223372036854775807 ∧ ∀ y1 ∈ y0.f1, y1.size ≤ 140737488351232))) := by
  obtain ⟨fuel, hf⟩ := h0
  exact (XOpen.opens_slice Try.underlying59 (by kernel_rfl) 32 (by kernel_rfl) (XOpen.opens_iso (fun x : R.S137 => (x.f0, x.f1)) (fun p => (⟨p.1, p.2⟩ : R.S137)) (fun _ => rfl) (XOpen.opens_struct Try.underlying137 (by kernel_rfl) (XOpen.opensF_cons rfl (by kernel_rfl) (XOpen.opens_int Try.underlying3) (XOpen.opensF_one rfl (by kernel_rfl) (XOpen.opens_slice Try.underlying24 (by kernel_rfl) 16 (by kernel_rfl) (XOpen.opens_string Try.underlying9))))))) H enc _ _ _ fuel _ _ hf (XOpen.weights_at hsz (j := 0) rfl rfl)
 obtain ⟨A0, c0, e0, hc0, hr0⟩ := K0
 obtain ⟨rfl, rfl, rfl⟩ : a0 = A0 ∧ len0 = x0.length ∧ cap0 = c0 := by simpa using e0
 obtain ⟨a1, len1, cap1, rfl⟩ := okWide_slice Try.underlying62 (hval 1 62 v1 rfl rfl)
 have k1 := h1
 have lt1 : ∀ x ∈ p1, x.block < W.heap.size := by obtain ⟨m, hm⟩ := k1; exact DataW.trod_lt m _ _ _ hm
 obtain ⟨x1, K1, g1⟩ : ∃ x, (Kd.slice 49 (Kd.slice 120 R.k120)).K W x [.slice a1 len1 cap1] ∧ (x.length * 24 ≤ 140737488351232 ∧ x.length ≤ 9223372036854775807 ∧ ∀ y0 ∈ x, (y0.length * 32 ≤ 140737488351232 ∧ y0.length ≤ 9223372036854775807 ∧ ∀ y1 ∈ y0, ((Lit.int .i64 y1.f0).wf = true ∧ (Lit.int .i64 y1.f1).wf = true ∧ y1.f2.size ≤ 140737488351232))) := by
  obtain ⟨fuel, hf⟩ := h1
  exact (XOpen.opens_slice Try.underlying62 (by kernel_rfl) 24 (by kernel_rfl) (XOpen.opens_slice Try.underlying49 (by kernel_rfl) 32 (by kernel_rfl) (XOpen.opens_iso (fun x : R.S120 => (x.f0, x.f1, x.f2)) (fun p => (⟨p.1, p.2.1, p.2.2⟩ : R.S120)) (fun _ => rfl) (XOpen.opens_struct Try.underlying120 (by kernel_rfl) (XOpen.opensF_cons rfl (by kernel_rfl) (XOpen.opens_int Try.underlying3) (XOpen.opensF_cons rfl (by kernel_rfl) (XOpen.opens_int Try.underlying3) (XOpen.opensF_one rfl (by kernel_rfl) (XOpen.opens_string Try.underlying9)))))))) H enc _ _ _ fuel _ _ hf (XOpen.weights_at hsz (j := 1) rfl rfl)
 obtain ⟨A1, c1, e1, hc1, hr1⟩ := K1
 obtain ⟨rfl, rfl, rfl⟩ : a1 = A1 ∧ len1 = x1.length ∧ cap1 = c1 := by simpa using e1
 obtain ⟨a2, len2, cap2, rfl⟩ := okWide_slice Try.underlying83 (hval 2 83 v2 rfl rfl)
 have k2 := h2
 have lt2 : ∀ x ∈ p2, x.block < W.heap.size := by obtain ⟨m, hm⟩ := k2; exact DataW.trod_lt m _ _ _ hm
 obtain ⟨x2, K2, g2⟩ : ∃ x, (Kd.slice 141 R.k141).K W x [.slice a2 len2 cap2] ∧ (x.length * 16 ≤ 140737488351232 ∧ x.length ≤ 9223372036854775807 ∧ ∀ y0 ∈ x, ((Lit.int .i64 y0.f0).wf = true ∧ (Lit.int .i64 y0.f1).wf = true)) := by
  obtain ⟨fuel, hf⟩ := h2
  exact (XOpen.opens_slice Try.underlying83 (by kernel_rfl) 16 (by kernel_rfl) (XOpen.opens_iso (fun x : R.S141 => (x.f0, x.f1)) (fun p => (⟨p.1, p.2⟩ : R.S141)) (fun _ => rfl) (XOpen.opens_struct Try.underlying141 (by kernel_rfl) (XOpen.opensF_cons rfl (by kernel_rfl) (XOpen.opens_int Try.underlying3) (XOpen.opensF_one rfl (by kernel_rfl) (XOpen.opens_int Try.underlying3)))))) H enc _ _ _ fuel _ _ hf (XOpen.weights_at hsz (j := 2) rfl rfl)
 obtain ⟨A2, c2, e2, hc2, hr2⟩ := K2
 obtain ⟨rfl, rfl, rfl⟩ : a2 = A2 ∧ len2 = x2.length ∧ cap2 = c2 := by simpa using e2
 obtain ⟨a3, rfl, rfl, rfl, w3⟩ := open_int Try.underlying3 (hval 3 3 v3 rfl rfl) h3
 clear hA0 hval0 hsz0 hsz
 obtain ⟨k, hP⟩ := Pure.TopShielded x0 x1 x2 a3 g0 g1 g2 w3
 refine (R.counterfoiltop_TopShielded.calls k _ _ x0 _ _ x1 _ _ x2 a3 true W hr0 hc0 hr1 hc1 hr2 hc2 rfl hP).mono fun e W' ⟨he, bel⟩ => ?_
 subst he
 exact ⟨_, rfl, _, _, _, [], _, [], hW', trodAll_mk1 (shut_bool Try.underlying4 _), (trodAll_cons_mk (Below.trod laidOut (by kernel_rfl) (of_decide_eq_true (by kernel_rfl)) k0 bel lt0) (trodAll_cons_mk (Below.trod laidOut (by kernel_rfl) (of_decide_eq_true (by kernel_rfl)) k1 bel lt1) (trodAll_cons_mk (Below.trod laidOut (by kernel_rfl) (of_decide_eq_true (by kernel_rfl)) k2 bel lt2) (trodAll_cons_mk (shut_int Try.underlying3 w3) trodAll_mk0)))), rfl, bel.frame _, fun h => by cases h⟩
theorem over : Rows.topShieldedRow.holds Try.pinned (OpenSpec.ofChange Rows.topShieldedSpec) :=
 OpenClaim.holds_of_wide 5 Try.f5 rfl rfl rfl rfl rfl rfl rfl ⟨rfl, rfl, rfl, rfl, rfl⟩ rfl rfl rfl rfl rfl (by kernel_rfl) Try.func5 (by kernel_rfl)
  (of_decide_eq_true (by kernel_rfl)) (by unfold Func.isWrapper; first | (rw [if_pos (by decide +kernel)]; kernel_rfl) | (rw [if_neg (by decide +kernel)]; exact ⟨rfl, rfl⟩))
  (fun os started H enc _ => lifted os started H enc)
theorem proved : Rows.TopShieldedSaid := over
#print axioms proved
end Go.Proofs.Ytecfndblgefhdaa.topShielded
namespace Go.Proofs.Ytecfndblgefhdaa
theorem topShielded_holds : Rows.TopShieldedSaid := topShielded.proved
end Go.Proofs.Ytecfndblgefhdaa
