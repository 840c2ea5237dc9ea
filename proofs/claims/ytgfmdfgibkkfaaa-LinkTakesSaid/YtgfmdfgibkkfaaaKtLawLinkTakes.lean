import Derived.Test.YtgfmdfgibkkfaaaRows
import Derived.Test.YtgfmdfgibkkfaaaKtHLinkTakes
import Derived.Test.YtgfmdfgibkkfaaaKtOpen
import Derived.Test.YtgfmdfgibkkfaaaKtPureLinkTakes
import Derived.WalkKit
import Derived.ProofKit
import Derived.OpenShut
import Derived.ShutString
import Derived.ChangeOld
import Derived.Below
import Derived.SizedLaws
import Derived.Test.YtgfmdfgibkkfaaaKtWSized
namespace Go.Proofs.Ytgfmdfgibkkfaaa.linkTakes
open Go.ChangeShapes Go.WideShapes Go.ChangeAt Go.RowKit Go.Proofs.YtgfmdfgibkkfaaaW.PrintWords Go.Proofs.YtgfmdfgibkkfaaaW.PrintLast
open Go.ChangeMaps (open_string shut_string)
set_option linter.unusedVariables false
theorem own : ownKnob Try.prog.godebug = none := by kernel_rfl
theorem laidOut : laidOutB Try.prog = true := by kernel_rfl
set_option maxRecDepth 100000 in
theorem lifted (os : Os) (started : os.Started) (H : Type) (enc : TypeId × Value → H) :
    ReturnsInHanded {} Try.checked os 5 .any (Rows.linkTakesSpec.pre6 enc Try.prog Try.f5 Rows.linkTakesRow.domain false) (Rows.linkTakesSpec.post enc Try.prog Try.f5 false true false false) := by
  refine returnsInHanded_of_change_sized (C := Try.checked) own started (by kernel_rfl) Try.func5
    (ChangeSpec.witness6 (enc := enc) (C := Try.checked) false ⟨#[], #[(.agg #[(.int .i64 0), (.int .i64 0), (.int .i64 0), (.slice none 0 0), (.int .i64 0)]), (.string ⟨#[]⟩)], []⟩ 8 (by kernel_rfl) (by kernel_rfl) (by kernel_rfl) (by kernel_rfl)) ?_
  intro W base args ds gs before hval0 hW hcnd hsz0 _
  have hsz : (DataW.weightsEach Try.prog (Try.f5.params.toList ++ Rows.linkTakesSpec.plain.varTypes Try.prog) (ds ++ gs)).all (· ≤ reachBytes) = true := hsz0
  have hval : ∀ (j : Nat) t v, Try.f5.params[j]? = some t → args[j]? = some v → Value.okWide Try.prog W .any base t v := hval0
  have hW' := hW
  obtain ⟨p, q, hA0, hV, rfl, hfz, hnd⟩ := hW
  have hA : DataW.TrodAll enc Try.prog W 0 (fun _ => true) true Try.f5.params.toList args.toList ds p := hA0
  rw [Try.params5] at hA hval hsz
  obtain ⟨v0, vs0, d0, ds0, p0, q0, hargs, rfl, rfl, h0, r0⟩ := trodAll_cons hA
  obtain ⟨v1, vs1, d1, ds1, p1, q1, rfl, rfl, rfl, h1, r1⟩ := trodAll_cons r0
  obtain ⟨rfl, rfl, rfl⟩ := trodAll_nil r1
  obtain rfl : args = #[v0, v1] := by cases args; simp_all
  obtain ⟨rfl, rfl⟩ := trodVars_none hV
  obtain ⟨⟨cl0⟩, rfl, _⟩ := okWide_struct Try.underlying24 (hval 0 24 v0 rfl rfl)
  have k0 := h0
  have lt0 : ∀ x ∈ p0, x.block < W.heap.size := by obtain ⟨m, hm⟩ := k0; exact DataW.trod_lt m _ _ _ hm
  obtain ⟨x0, K0, g0⟩ : ∃ x, P.k24.K W x cl0 ∧ ((Lit.int .i64 x.f0).wf = true ∧ (Lit.int .i64 x.f1).wf = true ∧ (Lit.int .i64 x.f2).wf = true ∧ (x.f3.length * 16 ≤ 140737488351232 ∧ x.f3.length ≤ 9223372036854775807 ∧ ∀ y0 ∈ x.f3, y0.size ≤ 140737488351232) ∧ (Lit.int .i64 x.f4).wf = true) := by
    obtain ⟨fuel, hf⟩ := h0
    exact (XOpen.opens_iso (fun x : P.S24 => (x.f0, x.f1, x.f2, x.f3, x.f4)) (fun p => (⟨p.1, p.2.1, p.2.2.1, p.2.2.2.1, p.2.2.2.2⟩ : P.S24)) (fun _ => rfl) (XOpen.opens_struct Try.underlying24 (by kernel_rfl) (XOpen.opensF_cons rfl (by kernel_rfl) (XOpen.opens_int Try.underlying3) (XOpen.opensF_cons rfl (by kernel_rfl) (XOpen.opens_int Try.underlying3) (XOpen.opensF_cons rfl (by kernel_rfl) (XOpen.opens_int Try.underlying3) (XOpen.opensF_cons rfl (by kernel_rfl) (XOpen.opens_slice Try.underlying22 (by kernel_rfl) 16 (by kernel_rfl) (XOpen.opens_string Try.underlying9)) (XOpen.opensF_one rfl (by kernel_rfl) (XOpen.opens_int Try.underlying3)))))))) H enc _ _ _ fuel _ _ hf (XOpen.weights_at hsz (j := 0) rfl rfl)
  obtain ⟨A0_3, c0_3, e0, hc0_3, hr0_3⟩ := P.k24_open K0
  subst e0
  obtain ⟨a1, rfl, rfl, rfl, y1⟩ := open_string Try.underlying9 (hval 1 9 v1 rfl rfl) h1
  have w1 : a1.size ≤ 140737488351232 := by
    have z := sized_string hsz (j := 1) (t := 9) rfl rfl
    rw [Array.length_toList] at z
    exact z
  clear hA0 hval0 hsz0 hsz
  obtain ⟨k, hP⟩ := Pure.LinkTakes x0.f0 x0.f1 x0.f2 x0.f3 x0.f4 a1 g0.1 g0.2.1 g0.2.2.1 g0.2.2.2.1 g0.2.2.2.2 w1
  refine (P.counterfoillaw15_LinkTakes.calls k x0.f0 x0.f1 x0.f2 _ _ x0.f3 x0.f4 a1 true W hr0_3 hc0_3 rfl hP).mono fun e W' ⟨he, bel⟩ => ?_
  subst he
  exact ⟨_, rfl, _, _, _, [], _, [], hW', trodAll_mk1 (shut_bool Try.underlying4 _), (trodAll_cons_mk (Below.trod laidOut (by kernel_rfl) (of_decide_eq_true (by kernel_rfl)) k0 bel lt0) (trodAll_cons_mk (shut_string Try.underlying9 y1) trodAll_mk0)), rfl, bel.frame _, fun h => by cases h⟩
theorem over : Rows.linkTakesRow.holds Try.pinned (OpenSpec.ofChange Rows.linkTakesSpec) :=
  OpenClaim.holds_of_wide 5 Try.f5 rfl rfl rfl rfl rfl rfl rfl ⟨rfl, rfl, rfl, rfl, rfl⟩ rfl rfl rfl rfl rfl (by kernel_rfl) Try.func5 (by kernel_rfl)
    (of_decide_eq_true (by kernel_rfl)) (by unfold Func.isWrapper; first | (rw [if_pos (by decide +kernel)]; kernel_rfl) | (rw [if_neg (by decide +kernel)]; exact ⟨rfl, rfl⟩))
    (fun os started H enc _ => lifted os started H enc)
theorem proved : Rows.LinkTakesSaid := over
#print axioms proved
end Go.Proofs.Ytgfmdfgibkkfaaa.linkTakes
namespace Go.Proofs.Ytgfmdfgibkkfaaa
theorem linkTakes_holds : Rows.LinkTakesSaid := linkTakes.proved
end Go.Proofs.Ytgfmdfgibkkfaaa
