/- The row of SumFour: its third argument is an array, opened by hand. -/
import Derived.Test.YtpejcejkgbbbbaaRows
import Derived.Test.YtpejcejkgbbbbaaHSumFour
import Derived.Test.YtpejcejkgbbbbaaPureSumFour
import Derived.WalkKit
import Derived.ProofKit
import Derived.OpenShut
import Derived.ShutString
import Derived.ChangeOld
import Derived.Below
import Derived.SizedLaws
namespace Go.Proofs.Ytpejcejkgbbbbaa.sumFour
open Go.ChangeShapes Go.WideShapes Go.ChangeAt Go.RowKit
open Go.ChangeMaps (open_string shut_string)
set_option linter.unusedVariables false
theorem own : ownKnob Try.prog.godebug = none := by kernel_rfl
theorem laidOut : laidOutB Try.prog = true := by kernel_rfl
theorem okWide_array {P : Program} {w : World} {r : Reach} {base : Nat} {t e : TypeId} {n : Nat} {v : Value} (ht : P.underlying t = some (.array n e)) (h : Value.okWide P w r base t v) : ∃ cs, v = .agg cs ∧ cs.size = P.cellsOf t := by
  simp only [Value.okWide, ht] at h
  obtain ⟨cs, h1, h2, _⟩ := h
  exact ⟨cs, h1, h2⟩
theorem open_four {H : Type} {enc : TypeId × Value → H} {P : Program} {w : World} {base : Nat} {sp : Nat → Bool} {held : Bool} {fuel : Nat} {t e : TypeId} {cs : List Value} {x : DataW H × List MemPlace}
    (ht : P.underlying t = some (.array 4 e)) (he : P.underlying e = some (.int .u8)) (h4 : P.cellsOf t = 4) (h1 : P.cellsOf e = 1) (h : DataW.trod enc P w base sp held fuel t cs = some x) :
    ∃ y0 y1 y2 y3 : Int, cs = [.int .u8 y0, .int .u8 y1, .int .u8 y2, .int .u8 y3] ∧ (Lit.int .u8 y0).wf = true ∧ (Lit.int .u8 y1).wf = true ∧ (Lit.int .u8 y2).wf = true ∧ (Lit.int .u8 y3).wf = true := by
  obtain ⟨xs, m, _, _, hlen, hxs, hel⟩ := DataW.trod_array ht h
  rw [h4] at hlen
  rw [h1] at hel
  have each : ∀ i, i < 4 → ∃ y : Int, (cs.drop (i * 1)).take 1 = [.int .u8 y] ∧ (Lit.int .u8 y).wf = true := by
    intro i hi
    have h0 := hel i hi
    rw [List.getElem?_eq_getElem (by omega)] at h0
    obtain ⟨y, hy, _, hw⟩ := DataW.trod_int he h0
    exact ⟨y, hy, hw⟩
  obtain ⟨y0, a0, w0⟩ := each 0 (by omega)
  obtain ⟨y1, a1, w1⟩ := each 1 (by omega)
  obtain ⟨y2, a2, w2⟩ := each 2 (by omega)
  obtain ⟨y3, a3, w3⟩ := each 3 (by omega)
  match cs, hlen with
  | [c0, c1, c2, c3], _ =>
    simp at a0 a1 a2 a3
    subst a0 a1 a2 a3
    exact ⟨y0, y1, y2, y3, rfl, w0, w1, w2, w3⟩
set_option maxRecDepth 100000 in
theorem lifted (os : Os) (started : os.Started) (H : Type) (enc : TypeId × Value → H) :
    ReturnsInHanded {} Try.checked os 7 .any (Rows.sumFourSpec.pre6 enc Try.prog Try.f7 Rows.sumFourRow.domain false) (Rows.sumFourSpec.post enc Try.prog Try.f7 false true false false) := by
  refine returnsInHanded_of_change_sized (C := Try.checked) own started (by kernel_rfl) Try.func7
    (ChangeSpec.witness6 (enc := enc) (C := Try.checked) false ⟨#[], #[.string ByteArray.empty, .int .i64 0, .agg #[.int .u8 0, .int .u8 0, .int .u8 0, .int .u8 0]], []⟩ 8 (by kernel_rfl) (by kernel_rfl) (by kernel_rfl) (by kernel_rfl)) ?_
  intro W base args ds gs before hval0 hW hcnd hsz0 _
  have hsz : (DataW.weightsEach Try.prog (Try.f7.params.toList ++ Rows.sumFourSpec.plain.varTypes Try.prog) (ds ++ gs)).all (· ≤ reachBytes) = true := hsz0
  have hval : ∀ (j : Nat) t v, Try.f7.params[j]? = some t → args[j]? = some v → Value.okWide Try.prog W .any base t v := hval0
  have hW' := hW
  obtain ⟨p, q, hA0, hV, rfl, hfz, hnd⟩ := hW
  have hA : DataW.TrodAll enc Try.prog W 0 (fun _ => true) true Try.f7.params.toList args.toList ds p := hA0
  rw [Try.params7] at hA hval hsz
  obtain ⟨v0, vs0, d0, ds0, p0, q0, hargs, rfl, rfl, h0, r0⟩ := trodAll_cons hA
  obtain ⟨v1, vs1, d1, ds1, p1, q1, rfl, rfl, rfl, h1, r1⟩ := trodAll_cons r0
  obtain ⟨v2, vs2, d2, ds2, p2, q2, rfl, rfl, rfl, h2, r2⟩ := trodAll_cons r1
  obtain ⟨rfl, rfl, rfl⟩ := trodAll_nil r2
  obtain rfl : args = #[v0, v1, v2] := by cases args; simp_all
  obtain ⟨rfl, rfl⟩ := trodVars_none hV
  obtain ⟨a0, rfl, rfl, rfl, y0⟩ := open_string Try.underlying9 (hval 0 9 v0 rfl rfl) h0
  have w0 : a0.size ≤ 140737488351232 := by
    have z := sized_string hsz (j := 0) (t := 9) rfl rfl
    rw [Array.length_toList] at z
    exact z
  obtain ⟨a1, rfl, rfl, rfl, w1⟩ := open_int Try.underlying3 (hval 1 3 v1 rfl rfl) h1
  obtain ⟨⟨cl2⟩, rfl, _⟩ := okWide_array Try.underlying33 (hval 2 33 v2 rfl rfl)
  have k2 := h2
  have lt2 : ∀ x ∈ p2, x.block < W.heap.size := by obtain ⟨m, hm⟩ := k2; exact DataW.trod_lt m _ _ _ hm
  obtain ⟨x0, x1, x2, x3, e2, g0, g1, g2, g3⟩ : ∃ y0 y1 y2 y3 : Int, cl2 = [.int .u8 y0, .int .u8 y1, .int .u8 y2, .int .u8 y3] ∧ (Lit.int .u8 y0).wf = true ∧ (Lit.int .u8 y1).wf = true ∧ (Lit.int .u8 y2).wf = true ∧ (Lit.int .u8 y3).wf = true := by
    obtain ⟨fuel, hf⟩ := h2
    exact open_four Try.underlying33 Try.underlying5 (by kernel_rfl) (by kernel_rfl) hf
  subst e2
  clear hA0 hval0 hsz0 hsz
  refine (P.counterfoillaw02_SumFour.calls a0 a1 x0 x1 x2 x3 W w0 w1 (Pure.SumFour a0 a1 x0 x1 x2 x3 w0 w1 g0 g1 g2 g3)).mono fun e W' ⟨he, bel⟩ => ?_
  subst he
  exact ⟨_, rfl, _, _, _, [], _, [], hW', trodAll_mk1 (shut_bool Try.underlying4 _), (trodAll_cons_mk (shut_string Try.underlying9 y0) (trodAll_cons_mk (shut_int Try.underlying3 w1) (trodAll_cons_mk (Below.trod laidOut (by kernel_rfl) (of_decide_eq_true (by kernel_rfl)) k2 bel lt2) trodAll_mk0))), rfl, bel.frame _, fun h => by cases h⟩
theorem over : Rows.sumFourRow.holds Try.pinned (OpenSpec.ofChange Rows.sumFourSpec) :=
  OpenClaim.holds_of_wide 7 Try.f7 rfl rfl rfl rfl rfl rfl rfl ⟨rfl, rfl, rfl, rfl, rfl⟩ rfl rfl rfl rfl rfl (by kernel_rfl) Try.func7 (by kernel_rfl)
    (of_decide_eq_true (by kernel_rfl)) (by unfold Func.isWrapper; first | (rw [if_pos (by decide +kernel)]; kernel_rfl) | (rw [if_neg (by decide +kernel)]; exact ⟨rfl, rfl⟩))
    (fun os started H enc _ => lifted os started H enc)
theorem proved : Rows.SumFourSaid := over
end Go.Proofs.Ytpejcejkgbbbbaa.sumFour
namespace Go.Proofs.Ytpejcejkgbbbbaa
/-- The row, under a short name, for the claim. -/
theorem sumFour_holds : Rows.SumFourSaid := sumFour.proved
end Go.Proofs.Ytpejcejkgbbbbaa
