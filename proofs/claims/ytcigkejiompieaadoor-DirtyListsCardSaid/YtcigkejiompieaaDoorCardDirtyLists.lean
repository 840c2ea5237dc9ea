/- For all masks and volumes (at most 300 masks, 10 volumes of 100 blocks), DirtyLists answers true: how many blocks are marked, which, and whether they are of some volumes, is told as the document says; the table of the library's trailing zeros is tied to the program's text. -/
-- Printed by this session's own program wip/mprint.py
import Derived.Test.YtcigkejiompieaaDoorRows
import Derived.Test.YtcigkejiompieaaDoorPx11
import Derived.Test.YtcigkejiompieaaDoorOpen
import Derived.Test.YtcigkejiompieaaDoorPureDirtyLists
import Derived.WalkKit
import Derived.ProofKit
import Derived.OpenShut
import Derived.ShutString
import Derived.ChangeOld
import Derived.Below
import Derived.SizedLaws
import Derived.LaidMore
import Derived.Stop.Joined
import Derived.SevenTiedAt
import Derived.Test.YtcigkejiompieaaDoorTie
import Derived.Test.YtcigkejiompieaaDoorCards
import Derived.Test.YtcigkejiompieaaDoorWSized
namespace Go.Proofs.YtcigkejiompieaaDoor.dirtyLists
open Go.ChangeShapes Go.WideShapes Go.ChangeAt Go.RowKit Go.Proofs.YtcigkejiompieaaDoorW.PrintWords Go.Proofs.YtcigkejiompieaaDoorW.PrintLast
open Go.ChangeMaps (open_string shut_string)
set_option linter.unusedVariables false
theorem own : ownKnob Tryd.prog.godebug = none := by kernel_rfl
theorem laidOut : laidOutB Tryd.prog = true := by kernel_rfl
theorem gTab : Tryd.prog.globalNamed "math/bits.deBruijn64tab" = some 0 := by kernel_rfl
theorem tTab : (Tryd.prog.globals[0]?).map (·.type) = some 59 := by kernel_rfl
abbrev laid1 : List (String × DataW Unit) := [("math/bits.deBruijn64tab", Rows.laid_math_bits_deBruijn64tab)]
theorem door_met (os : Os) (args : Array Value) : laidMetH Tryd.prog laid1 ((World.doorLaid Tryd.prog 400 os).forCall (fun _ _ => 0) ⟨#[], args, []⟩).memory :=
  laidMetH_of_parts3 (fuel := 8) (laidMet_of_run' 8 (by kernel_rfl) (by kernel_rfl)) (by kernel_rfl) (by kernel_rfl)
theorem laid_list : (Rows.laid_math_bits_deBruijn64tab : DataW Unit) = .agg (P.trailTab.map fun n => .lit (.int .u8 n)) := rfl
theorem of_laid {W : World} (h : laidMetH Tryd.prog laid1 W) : P.TabAt W := by
  rw [MakeChecks.laidMetH_plain _ _ _ (by kernel_rfl)] at h
  obtain ⟨ps, ⟨g0, t0, cs0, f0, p0, q0, hg0, ht0, hv0, hd0, _, _⟩, _, _⟩ := h
  obtain rfl := Option.some.inj (gTab.symm.trans hg0)
  obtain rfl := Option.some.inj (tTab.symm.trans ht0)
  obtain ⟨xs, m1, rfl, hx1, hlen, hn3, hel⟩ := DataW.trod_array Tryd.underlying59 hd0
  have c5 : Tryd.prog.cellsOf 5 = 1 := by kernel_rfl
  rw [laid_list] at hx1
  simp only [Prod.mk.injEq, DataW.agg.injEq] at hx1
  intro i hi
  have hi2 : i < xs.length := by omega
  have h0 := hel i hi
  rw [List.getElem?_eq_getElem hi2, c5] at h0
  obtain ⟨k, e1, e2, _⟩ := DataW.trod_int Tryd.underlying5 h0
  have hk : P.trailTab.getD i 0 = k := by
    have h1 := congrArg (fun l => l[i]?) hx1.1
    simp only [List.getElem?_map, List.getElem?_eq_getElem hi2, Option.map_some, e2] at h1
    rw [List.getD_eq_getElem?_getD]
    cases hq : P.trailTab[i]? with
    | none => rw [hq] at h1; cases h1
    | some n =>
      rw [hq] at h1
      simp only [Option.map_some, Option.some.injEq, DataW.lit.injEq, Lit.int.injEq, true_and] at h1
      exact h1
  have hv := World.var?_cell hg0 hv0 i
  rw [hv, hk]
  have e3 : (cs0.toList.drop (i * 1)).take 1 = [.int .u8 k] := e1
  rw [Nat.mul_one] at e3
  have e4 : cs0.toList[i]? = some (.int .u8 k) := by
    have := congrArg (fun l => l[0]?) e3
    simpa using this
  simpa using e4
set_option maxRecDepth 100000 in
theorem lifted (os : Os) (started : os.Started) (H : Type) (enc : TypeId × Value → H) :
    ReturnsInHanded {} Tryd.checked os 3 .any (fun w args => (Rows.dirtyListsSpec.pre enc Tryd.prog Tryd.f3 [] false w args ∧ laidMetH Tryd.prog laid1 w) ∧ sizedMet enc Tryd.prog Tryd.f3 (OpenSpec.ofChange Rows.dirtyListsSpec) false w args) (Rows.dirtyListsSpec.post enc Tryd.prog Tryd.f3 false true false false) := by
  refine returnsInHanded_of_change_and (C := Tryd.checked) (X := fun w _ => laidMetH Tryd.prog laid1 w) (fun _ _ _ hh h => h.of_heap hh) own started (by kernel_rfl) Tryd.func3
    (ChangeSpec.witness_shaped (enc := enc) (C := Tryd.checked) (os := os) (X := fun w _ => laidMetH Tryd.prog laid1 w) false (World.doorLaid Tryd.prog 400 os) #[(.slice none 0 0), (.slice none 0 0)] 8 rfl (World.shaped_of_RefB (by kernel_rfl) (by kernel_rfl)) (by kernel_rfl) (by kernel_rfl) (by kernel_rfl) (door_met os _)) ?_
  intro W base args ds gs before hval0 hW hcnd hsz0 hL _
  have hTab := of_laid hL
  have hsz : (DataW.weightsEach Tryd.prog (Tryd.f3.params.toList ++ Rows.dirtyListsSpec.plain.varTypes Tryd.prog) (ds ++ gs)).all (· ≤ reachBytes) = true := hsz0
  have hval : ∀ (j : Nat) t v, Tryd.f3.params[j]? = some t → args[j]? = some v → Value.okWide Tryd.prog W .any base t v := hval0
  have hW' := hW
  obtain ⟨p, q, hA0, hV, rfl, hfz, hnd⟩ := hW
  have hA : DataW.TrodAll enc Tryd.prog W 0 (fun _ => true) true Tryd.f3.params.toList args.toList ds p := hA0
  rw [Tryd.params3] at hA hval hsz
  obtain ⟨v0, vs0, d0, ds0, p0, q0, hargs, rfl, rfl, h0, r0⟩ := trodAll_cons hA
  obtain ⟨v1, vs1, d1, ds1, p1, q1, rfl, rfl, rfl, h1, r1⟩ := trodAll_cons r0
  obtain ⟨rfl, rfl, rfl⟩ := trodAll_nil r1
  obtain rfl : args = #[v0, v1] := by cases args; simp_all
  obtain ⟨rfl, rfl⟩ := trodVars_none hV
  obtain ⟨a0, len0, cap0, rfl⟩ := okWide_slice Tryd.underlying22 (hval 0 22 v0 rfl rfl)
  have k0 := h0
  have lt0 : ∀ x ∈ p0, x.block < W.heap.size := by obtain ⟨m, hm⟩ := k0; exact DataW.trod_lt m _ _ _ hm
  obtain ⟨x0, K0, g0⟩ : ∃ x, (Kd.slice 48 P.k48).K W x [.slice a0 len0 cap0] ∧ (x.length * 16 ≤ 140737488351232 ∧ x.length ≤ 9223372036854775807 ∧ ∀ y0 ∈ x, ((Lit.int .i64 y0.f0).wf = true ∧ (Lit.int .u64 y0.f1).wf = true)) := by
    obtain ⟨fuel, hf⟩ := h0
    exact (XOpen.opens_slice Tryd.underlying22 (by kernel_rfl) 16 (by kernel_rfl) (XOpen.opens_iso (fun x : P.S48 => (x.f0, x.f1)) (fun p => (⟨p.1, p.2⟩ : P.S48)) (fun _ => rfl) (XOpen.opens_struct Tryd.underlying48 (by kernel_rfl) (XOpen.opensF_cons rfl (by kernel_rfl) (XOpen.opens_int Tryd.underlying3) (XOpen.opensF_one rfl (by kernel_rfl) (XOpen.opens_int Tryd.underlying46)))))) H enc _ _ _ fuel _ _ hf (XOpen.weights_at hsz (j := 0) rfl rfl)
  obtain ⟨A0, c0, e0, hc0, hr0⟩ := K0
  obtain ⟨rfl, rfl, rfl⟩ : a0 = A0 ∧ len0 = x0.length ∧ cap0 = c0 := by simpa using e0
  obtain ⟨a1, len1, cap1, rfl⟩ := okWide_slice Tryd.underlying23 (hval 1 23 v1 rfl rfl)
  have k1 := h1
  have lt1 : ∀ x ∈ p1, x.block < W.heap.size := by obtain ⟨m, hm⟩ := k1; exact DataW.trod_lt m _ _ _ hm
  obtain ⟨x1, K1, g1⟩ : ∃ x, (Kd.slice 40 P.k40).K W x [.slice a1 len1 cap1] ∧ (x.length * 32 ≤ 140737488351232 ∧ x.length ≤ 9223372036854775807 ∧ ∀ y0 ∈ x, ((Lit.int .i64 y0.f0).wf = true ∧ (y0.f1.length * 16 ≤ 140737488351232 ∧ y0.f1.length ≤ 9223372036854775807 ∧ ∀ y1 ∈ y0.f1, y1.size ≤ 140737488351232))) := by
    obtain ⟨fuel, hf⟩ := h1
    exact (XOpen.opens_slice Tryd.underlying23 (by kernel_rfl) 32 (by kernel_rfl) (XOpen.opens_iso (fun x : P.S40 => (x.f0, x.f1)) (fun p => (⟨p.1, p.2⟩ : P.S40)) (fun _ => rfl) (XOpen.opens_struct Tryd.underlying40 (by kernel_rfl) (XOpen.opensF_cons rfl (by kernel_rfl) (XOpen.opens_int Tryd.underlying3) (XOpen.opensF_one rfl (by kernel_rfl) (XOpen.opens_slice Tryd.underlying38 (by kernel_rfl) 16 (by kernel_rfl) (XOpen.opens_string Tryd.underlying9))))))) H enc _ _ _ fuel _ _ hf (XOpen.weights_at hsz (j := 1) rfl rfl)
  obtain ⟨A1, c1, e1, hc1, hr1⟩ := K1
  obtain ⟨rfl, rfl, rfl⟩ : a1 = A1 ∧ len1 = x1.length ∧ cap1 = c1 := by simpa using e1
  clear hA0 hval0 hsz0 hsz
  obtain ⟨k, hP⟩ := Pure.DirtyLists x0 x1 g0 g1
  refine (P.counterfoillaw10_DirtyLists.calls k _ _ x0 _ _ x1 true W hr0 hc0 hr1 hc1 rfl hTab hP).mono fun e W' ⟨he, bel⟩ => ?_
  subst he
  exact ⟨_, rfl, _, _, _, [], _, [], hW', trodAll_mk1 (shut_bool Tryd.underlying4 _), (trodAll_cons_mk (Below.trod laidOut (by kernel_rfl) (of_decide_eq_true (by kernel_rfl)) k0 bel lt0) (trodAll_cons_mk (Below.trod laidOut (by kernel_rfl) (of_decide_eq_true (by kernel_rfl)) k1 bel lt1) trodAll_mk0)), rfl, bel.frame _, fun h => by cases h⟩
theorem over : Rows.dirtyListsRow.holds Tryd.pinned (OpenSpec.ofChange Rows.dirtyListsSpec) :=
  OpenClaim.holds_of_wide 3 Tryd.f3 rfl rfl rfl rfl rfl rfl rfl ⟨rfl, rfl, rfl, rfl, rfl⟩ rfl rfl rfl rfl rfl (by kernel_rfl) Tryd.func3 (by kernel_rfl)
    (of_decide_eq_true (by kernel_rfl)) (by unfold Func.isWrapper; first | (rw [if_pos (by decide +kernel)]; kernel_rfl) | (rw [if_neg (by decide +kernel)]; exact ⟨rfl, rfl⟩))
    (fun os started H enc _ => lifted os started H enc)
theorem row_tie : Rows.dirtyListsRow.laidByTextAt .later Tryd.pinned [.data] true := dirtyLists_row_tie
theorem card : Claim7.holds Tryd.pinned (.plain (OpenSpec.ofChange Rows.dirtyListsSpec)) Rows.dirtyListsCard :=
  Claim7.holds_tied_plain_at .later [] [.data] true (true, "b549977e961bddac62a171756b75ec0482943d7c734b8805d4da255be9c9490a") false
    over (fun _ h => by cases h) (by kernel_rfl) (fun _ h => by cases h) row_tie rfl ⟨rfl, rfl⟩ (by kernel_rfl) rfl
    (fun f fn hf hfn => by
      obtain rfl : f = 3 := Option.some.inj ((show Tryd.prog.funcNamed "counterfoil/counterfoillaw10.DirtyLists" = some 3 by kernel_rfl).symm.trans hf) |>.symm
      obtain rfl : fn = Tryd.f3 := (Option.some.inj (Tryd.func3.symm.trans hfn)).symm
      exact ⟨by kernel_rfl, fun j t ht => by
        rw [Tryd.params3] at ht
        have hm : t ∈ [22, 23] := by simpa using Array.mem_of_getElem? ht
        have hall : ([22, 23].all fun u => !Tryd.prog.wantsStandIn u) = true := by kernel_rfl
        exact (show Tryd.prog.wantsStandIn t = false by simpa using List.all_eq_true.1 hall t hm)⟩)
    (by kernel_rfl)
theorem proved : Rows.DirtyListsCardSaid := card
#print axioms proved
end Go.Proofs.YtcigkejiompieaaDoor.dirtyLists
namespace Go.Proofs.YtcigkejiompieaaDoor
/-- The card, under a short name, for the claim. -/
theorem dirtyLists_holds : Rows.DirtyListsCardSaid := dirtyLists.proved
end Go.Proofs.YtcigkejiompieaaDoor
