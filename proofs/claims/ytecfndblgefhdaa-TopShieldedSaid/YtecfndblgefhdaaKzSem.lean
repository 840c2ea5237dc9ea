import Derived.Test.YtecfndblgefhdaaKzQueP
import Derived.Test.YtecfndblgefhdaaKzQue
import Derived.Test.YtecfndblgefhdaaKzSame
set_option linter.unusedVariables false
set_option linter.unusedSimpArgs false
namespace Go.Proofs.Ytecfndblgefhdaa.Law
open Go.RowKit Go.Proofs.Ytecfndblgefhdaa.R Go.Proofs.Ytecfndblgefhdaa.Sort Go.Proofs.YtecfndblgefhdaaW.PrintWords Go.Proofs.YtecfndblgefhdaaW.PrintLast Go.Proofs.YtecfndblgefhdaaW.PrintMore
def smallB (vs : List Vo) (l : List (List Wr)) (m : Nat) : Bool := right vs && (l.take m).all fun ws => decide (ws.length ≤ 20)
theorem small_go (l : List (List Wr)) (hl : l.length ≤ 9223372036854775807) (m : Nat) (hm : m ≤ 100) : ∀ (n i : Nat), l.length - i ≤ n → i ≤ l.length → i ≤ m → Runs (fun k => counterfoiltop_small.l0 k l (m : Int) (i : Int)) (fun r => r = ((l.drop i).take (m - i)).all fun ws => decide (ws.length ≤ 20)) := by
 have hstop : ∀ (i : Nat), (l.drop i).take (m - i) = [] → ¬ ((i : Int) < (l.length : Int) ∧ (i : Int) < (m : Int)) → Runs (fun k => counterfoiltop_small.l0 k l (m : Int) (i : Int)) (fun r => r = ((l.drop i).take (m - i)).all fun ws => decide (ws.length ≤ 20)) := by
  intro i h1 h2
  refine Runs.step (F := fun k => counterfoiltop_small.j2 k l (m : Int) (i : Int) false) (Runs.now true (by rw [h1]; rfl) 1 (fun k hk => ?_)) 0 (fun k _ => ?_)
  ·obtain ⟨k, rfl⟩ : ∃ q, k = q + 1 := ⟨k - 1, z7_⟩
   rw [counterfoiltop_small.j2, if_neg z8_]
  ·rw [counterfoiltop_small.l0]
   by_cases c : (i : Int) < (l.length : Int)
   ·rw [if_pos c, decide_eq_false (fun h => h2 ⟨c, h⟩)]
   ·rw [if_neg c]
 intro n
 induction n with
 | zero =>
  intro i h1 h2 h3
  exact hstop i z165_ z7_
 | succ n ih =>
  intro i h1 h2 h3
  by_cases c : i < l.length
  ·by_cases c2 : i < m
   ·have e1 : rd_L6 l (i : Int) = l[i] := by
     unfold rd_L6
     rw [Int.toNat_natCast, List.getD_eq_getElem?_getD, List.getElem?_eq_getElem c]
     rfl
    have hd : (l.drop i).take (m - i) = l[i] :: (l.drop (i + 1)).take (m - (i + 1)) := by rw [List.drop_eq_getElem_cons c, show m - i = (m - (i + 1)) + 1 from z7_, List.take_succ_cons]
    have hj : Runs (fun k => counterfoiltop_small.j2 k l (m : Int) (i : Int) true) (fun r => r = ((l.drop i).take (m - i)).all fun ws => decide (ws.length ≤ 20)) := by
     by_cases c3 : l[i].length ≤ 20
     ·have hg := (ih (i + 1) z7_ z7_ z7_).post (Q := fun r => r = ((l.drop i).take (m - i)).all fun ws => decide (ws.length ≤ 20)) (fun r hr => by rw [hr, hd, List.all_cons, decide_eq_true c3, Bool.true_and])
      have hw : wrap64 ((i : Int) + 1) = ((i + 1 : Nat) : Int) := by unfold wrap64; omega
      refine Runs.step hg 0 (fun k _ => ?_)
      rw [counterfoiltop_small.j2, if_pos rfl, if_pos z7_, if_pos z7_, e1, if_neg z7_, hw]
     ·refine Runs.now false (by rw [hd, List.all_cons, decide_eq_false c3, Bool.false_and]) 1 (fun k hk => ?_)
      obtain ⟨k, rfl⟩ : ∃ q, k = q + 1 := ⟨k - 1, z7_⟩
      rw [counterfoiltop_small.j2, if_pos rfl, if_pos z7_, if_pos z7_, e1, if_pos z7_]
    refine Runs.step hj 0 (fun k _ => ?_)
    rw [counterfoiltop_small.l0, if_pos z7_, decide_eq_true z7_]
   ·exact hstop i (by rw [show m - i = 0 from z7_, List.take_zero]) z7_
  ·exact hstop i z165_ z7_
theorem small_run (vs : List Vo) (l : List (List Wr)) (hv : vs.length ≤ 9223372036854775807) (hl : l.length ≤ 9223372036854775807) (m : Nat) (hm : m ≤ 100) : Runs (fun k => counterfoiltop_small.f k vs l (m : Int)) (fun r => r = smallB vs l m) := by
 have hbad : right vs = false ∨ 4 < vs.length → Runs (fun k => counterfoiltop_small.j0 k l (m : Int) true) (fun r => r = smallB vs l m) := fun h => by
  refine Runs.now false ?_ 1 (fun k hk => ?_)
  ·unfold smallB
   rcases h with h | h
   ·rw [h]; rfl
   ·cases hr : right vs with
    | false => rfl
    | true => have := (right_small hr).1; omega
  ·obtain ⟨k, rfl⟩ : ∃ q, k = q + 1 := ⟨k - 1, z7_⟩
   rw [counterfoiltop_small.j0, if_pos rfl]
 refine Runs.bind (G := fun k t => if t = true then (counterfoiltop_small.j0 k l (m : Int) (decide ((vs.length : Int) > 4))) else (counterfoiltop_small.j0 k l (m : Int) true)) (right_run vs hv) (fun r hr => ?_)
 subst hr
 cases hr : right vs with
 | false => exact (hbad (.inl hr)).same 0 (fun k _ => if_neg z8_)
 | true =>
  have h4 := (right_small hr).1
  refine Runs.same (F := fun k => counterfoiltop_small.j0 k l (m : Int) false) (Runs.step (small_go l hl m hm l.length 0 z7_ z7_ z7_) 0 (fun k _ => ?_)) 0 (fun k _ => by show (if true = true then _ else _) = _; rw [if_pos rfl, decide_eq_false z7_]) |>.post (fun r hr2 => ?_)
  ·rw [counterfoiltop_small.j0, if_neg z8_]
   rfl
  ·rw [hr2, List.drop_zero, Nat.sub_zero]
   unfold smallB
   rw [hr, Bool.true_and]
theorem small_sem (A0 : Option Addr) (c0 : Nat) (vs : List Vo) (A1 : Option Addr) (c1 : Nat) (l : List (List Wr)) (m : Nat) (hm : m ≤ 100) (w : World) (hr0 : Kd.C k137 w A0 vs.length vs) (hc0 : vs.length ≤ c0) (hr1 : Kd.C (Kd.slice 120 k120) w A1 l.length l) (hc1 : l.length ≤ c1) :
  Calls Try.prog 12 #[.slice A0 vs.length c0, .slice A1 l.length c1, .int .i64 (m : Int)] w fun e w' => e = .returned (.bool (smallB vs l m)) ∧ Below w.heap.size w w' := by
 obtain ⟨r, hp, k0, hk⟩ := small_run vs l hr0.2.1 hr1.2.1 m hm
 subst hp
 exact counterfoiltop_small.calls k0 A0 c0 vs A1 c1 l m _ w hr0 hc0 hr1 hc1 (hk k0 (Nat.le_refl _))
theorem apply_sem {A0 : Option Addr} {c0 : Nat} {vs : List Vo} {A1 : Option Addr} {c1 : Nat} {ws : List Wr} {w : World} (hr0 : Kd.C k137 w A0 vs.length vs) (hc0 : vs.length ≤ c0) (hr1 : Kd.C k120 w A1 ws.length ws) (hc1 : ws.length ≤ c1) (hv : right vs = true) (ho : okWs vs ws) :
  Calls Try.prog 16 #[.slice A0 vs.length c0, .slice A1 ws.length c1] w fun e w' => ∃ v, e = .returned (.tuple #[v, .int .i64 0]) ∧ Rn k137 w w' v (app vs ws) ∧ Below w.heap.size w w' := by
 obtain ⟨r, hp, k0, hk⟩ := apply_run hv ho
 subst hp
 refine (vols_Apply.calls k0 A0 c0 vs A1 c1 ws _ _ w hr0 hc0 hr1 hc1 (hk k0 (Nat.le_refl _))).mono ?_
 rintro e w' ⟨v, he, hS, hb⟩
 exact ⟨v, he, Rn.of_S hS, hb⟩
theorem apply_sem_bad {A0 : Option Addr} {c0 : Nat} {vs : List Vo} {A1 : Option Addr} {c1 : Nat} {ws : List Wr} {w : World} (hr0 : Kd.C k137 w A0 vs.length vs) (hc0 : vs.length ≤ c0) (hr1 : Kd.C k120 w A1 ws.length ws) (hc1 : ws.length ≤ c1) (hv : right vs = true) (ho : ¬ okWs vs ws) :
  Calls Try.prog 16 #[.slice A0 vs.length c0, .slice A1 ws.length c1] w fun e w' => ∃ (A : Option Addr) (c : Nat) (n : Int), e = .returned (.tuple #[.slice A 0 c, .int .i64 n]) ∧ n ≠ 0 ∧ Below w.heap.size w w' := by
 obtain ⟨⟨r0, r1⟩, ⟨hp0, hp1⟩, k0, hk⟩ := apply_bad hv ho
 have hp0 : r0 = [] := hp0
 subst hp0
 refine (vols_Apply.calls k0 A0 c0 vs A1 c1 ws _ _ w hr0 hc0 hr1 hc1 (hk k0 (Nat.le_refl _))).mono ?_
 rintro e w' ⟨v, he, hS, hb⟩
 obtain ⟨A, c, rfl⟩ := Kd.S_slice hS
 exact ⟨A, c, r1, he, hp1, hb⟩
section
variable {B0 B1 : Option Addr} {d0 d1 : Nat} {sets : List Se} {opn : List Wr} {fr tq : Int} {w : World}
end
theorem same_sem {A0 A1 : Option Addr} {c0 c1 : Nat} {l : List Vo} {w : World} (hr0 : Kd.C k137 w A0 l.length l) (hc0 : l.length ≤ c0) (hr1 : Kd.C k137 w A1 l.length l) (hc1 : l.length ≤ c1) (h : right l = true) :
  Calls Try.prog 22 #[.slice A0 l.length c0, .slice A1 l.length c1] w fun e w' => e = .returned (.bool true) ∧ Below w.heap.size w w' := by
 obtain ⟨r, hp, k0, hk⟩ := right_true h
 subst hp
 exact vols_Same.calls k0 A0 A1 c0 c1 l w w hr0 hc0 hr1 hc1 (Below.refl _ _) (hk k0 (Nat.le_refl _))
end Go.Proofs.Ytecfndblgefhdaa.Law
