/- For all masks and volumes (at most 300 masks, 10 volumes of 100 blocks), the plain law of DirtyLists: how many blocks are marked, which, and whether they are of some volumes, is told as the document says. -/
import Derived.Test.YtcigkejiompieaaDoorPx0
import Derived.Test.YtcigkejiompieaaDoorPx11
import Derived.Test.YtcigkejiompieaaDoorPx6
import Derived.Test.YtcigkejiompieaaDoorPx9
import Derived.Test.YtcigkejiompieaaDoorQList
namespace Go.Proofs.YtcigkejiompieaaDoor.Pure
open Go.RowKit Go.Proofs.YtcigkejiompieaaDoor.P Go.Proofs.YtcigkejiompieaaDoor.Dirty Go.Proofs.YtcigkejiompieaaDoorW.PrintWords Go.Proofs.YtcigkejiompieaaDoorW.PrintLast Go.Proofs.YtcigkejiompieaaDoorW.PrintMore
set_option linter.unusedVariables false
set_option linter.unusedSimpArgs false

theorem wf_nonneg {m : List S48} (h : ∀ y ∈ m, (Lit.int .i64 y.f0).wf = true ∧ (Lit.int .u64 y.f1).wf = true) : ∀ b ∈ m, 0 ≤ b.f1 := by
  intro b hb
  have := (h b hb).2
  simp [Lit.wf, IntKind.min, IntKind.max, IntKind.signed, IntKind.bits] at this
  omega
def lS (m : List S48) : List S33 := if rgt 0 m = true then listS m else []
theorem lS_len (m : List S48) (hm : m.length ≤ 300) : (lS m).length ≤ 9600 := by
  unfold lS
  split
  · have := list_len m; omega
  · exact Nat.zero_le _
theorem j3_eq (m : List S48) (vs : List S40) (hm : m.length ≤ 300) (hw : ∀ x ∈ m, 0 ≤ x.f1) (hv : vs.length ≤ 10) {k : Nat} (hk : 30000 ≤ k) :
    counterfoillaw10_DirtyLists.j3 k m vs (lS m) (rgt 0 m && (rightV vs && within m vs)) = some true := by
  obtain ⟨k, rfl⟩ : ∃ j, k = j + 1 := ⟨k - 1, by omega⟩
  have hl := lS_len m hm
  have e1 : dirty_List.f k m = some (lS m) := dlist_eq m hm hw (by omega)
  have e2 : dirty_Count.f k m = some (((lS m).length : Nat) : Int) := by
    rw [count_eq m (by omega) hw (by omega)]
    unfold lS
    by_cases hr : rgt 0 m = true
    · rw [if_pos hr, if_pos hr, list_cnt]
    · rw [if_neg hr, if_neg hr]; rfl
  rw [counterfoillaw10_DirtyLists.j3, e1]
  simp only [Option.bind_some]
  rw [same_eq _ (by omega) (by omega), e2, within_eq m vs (by omega) hw hv (by omega), awake_eq]
  simp only [Option.bind_some]
  rw [if_pos trivial, if_pos trivial, if_pos (by simp)]
theorem loop_eq (m : List S48) (vs : List S40) (l : List S33) (hl : l.length ≤ 9600) (hv : vs.length ≤ 10) (hb : ∀ x ∈ vs, x.f1.length ≤ 100) (F : Bool) (K : Nat) (hK : 100 ≤ K)
    (H : ∀ k, K ≤ k → counterfoillaw10_DirtyLists.j3 k m vs l F = some true) (d : Nat) : ∀ (i k : Nat) (b : Bool), i + d = l.length → K + d + 1 ≤ k → (b && (l.drop i).all fun x => getB vs x.f0 x.f1) = F → counterfoillaw10_DirtyLists.l0 k m vs l b (i : Int) = some true := by
  induction d with
  | zero =>
    intro i k b hi hk hF
    obtain ⟨k, rfl⟩ : ∃ j, k = j + 1 := ⟨k - 1, by omega⟩
    rw [List.drop_eq_nil_of_le (by omega)] at hF
    have hF2 : b = F := by rw [← hF]; simp
    rw [counterfoillaw10_DirtyLists.l0, if_neg (by omega), hF2]
    exact H k (by omega)
  | succ d ih =>
    intro i k b hi hk hF
    obtain ⟨k, rfl⟩ : ∃ j, k = j + 1 := ⟨k - 1, by omega⟩
    have hl2 : i < l.length := by omega
    have hd : rd_T33 l (i : Int) = l[i] := rd37 l i hl2
    rw [List.drop_eq_getElem_cons hl2, List.all_cons] at hF
    rw [counterfoillaw10_DirtyLists.l0, if_pos (by omega)]
    cases b with
    | false =>
      rw [if_neg (by decide)]
      have hF2 : false = F := by rw [← hF]; rfl
      rw [hF2]
      exact H k (by omega)
    | true =>
      obtain ⟨s, e, h1, h2⟩ := get_eq vs hv hb (l[i]).f0 (l[i]).f1 (k := k) (by omega)
      rw [if_pos rfl, if_pos (by omega), hd, h1]
      simp only [Option.bind_some]
      rw [w64 (by omega) (by omega), show (i : Int) + 1 = ((i + 1 : Nat) : Int) from by omega]
      refine ih (i + 1) k _ (by omega) (by omega) ?_
      rw [← hF, Bool.true_and, h2]
theorem DirtyLists : counterfoillaw10_DirtyLists.Pure := by
  intro m vs hwm hwv
  obtain ⟨k, hk⟩ : ∃ k, 100000 ≤ k := ⟨100000, Nat.le_refl _⟩
  refine ⟨k + 2, ?_⟩
  have hw := wf_nonneg hwm.2.2
  unfold counterfoillaw10_DirtyLists.f
  by_cases q1 : (m.length : Int) > 300
  · rw [if_pos q1, counterfoillaw10_DirtyLists.j0, if_pos rfl, awake_eq]; rfl
  have hm : m.length ≤ 300 := by omega
  rw [if_neg q1, small07_eq vs [] (by omega)]
  simp only [Option.bind_some]
  by_cases hs : (decide (vs.length ≤ 10 ∧ ([] : List S45).length ≤ 200) && vs.all fun x => decide (x.f1.length ≤ 100)) = true
  · rw [hs, counterfoillaw10_DirtyLists.j0, if_neg (by decide)]
    rw [Bool.and_eq_true, decide_eq_true_eq, List.all_eq_true] at hs
    have hv := hs.1.1
    have hb : ∀ x ∈ vs, x.f1.length ≤ 100 := fun x hx => by have := hs.2 x hx; rwa [decide_eq_true_eq] at this
    have hl := lS_len m hm
    have H := fun k hk => j3_eq m vs hm hw hv (k := k) hk
    have e1 : counterfoilref10_List.f (k + 1) m = some (lS m) := by
      unfold lS
      by_cases hr : rgt 0 m = true
      · rw [if_pos hr, rlist_eq m hm hr (rgt_small hr hw) (by omega)]
      · rw [if_neg hr, rlist_bad m hm hr (by omega)]
    rw [e1, rright_eq m (by omega) (by omega), rvol_eq vs (by omega)]
    simp only [Option.bind_some]
    by_cases hr : rgt 0 m = true
    · rw [if_pos hr, counterfoillaw10_DirtyLists.j1]
      refine loop_eq m vs (lS m) hl hv hb _ 30000 (by omega) H (lS m).length 0 k (rightV vs) (by omega) (by omega) ?_
      rw [List.drop_zero, hr, Bool.true_and]
      by_cases hq : rightV vs = true
      · rw [hq, Bool.true_and, Bool.true_and, within_list m vs hr (rightV_mem hq).2]
        unfold lS
        rw [if_pos hr]
      · rw [Bool.eq_false_iff.2 hq]; rfl
    · rw [if_neg hr, counterfoillaw10_DirtyLists.j1]
      refine loop_eq m vs (lS m) hl hv hb _ 30000 (by omega) H (lS m).length 0 k false (by omega) (by omega) ?_
      rw [Bool.eq_false_iff.2 hr]
      rfl
  · rw [Bool.eq_false_iff.2 hs, counterfoillaw10_DirtyLists.j0, if_pos (show (!false) = true from rfl), awake_eq]; rfl
end Go.Proofs.YtcigkejiompieaaDoor.Pure
