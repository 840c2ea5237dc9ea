import Derived.Test.YtecfndblgefhdaaKzFoldP
set_option linter.unusedVariables false
set_option linter.unusedSimpArgs false
namespace Go.Proofs.Ytecfndblgefhdaa.Law
open Go.RowKit Go.Proofs.Ytecfndblgefhdaa.R Go.Proofs.Ytecfndblgefhdaa.Sort Go.Proofs.YtecfndblgefhdaaW.PrintWords Go.Proofs.YtecfndblgefhdaaW.PrintLast Go.Proofs.YtecfndblgefhdaaW.PrintMore
theorem idx_eq : ∀ (l : List ByteArray) (i : Int), 0 ≤ i → ∃ t, slices_IndexFunc_string_string.idx (fun s => vols_Right_1.f s) l i = some t ∧ decide (0 ≤ t) = l.any fun s => decide ((s.size : Int) > 8)
 | [], i, h => ⟨-1, rfl, rfl⟩
 | s :: r, i, h => by
  obtain ⟨t, h1, h2⟩ := idx_eq r (i + 1) z7_
  rw [slices_IndexFunc_string_string.idx]
  unfold vols_Right_1.f
  simp only [Option.bind_some, List.any_cons]
  by_cases c : (s.size : Int) > 8
  ·rw [if_pos (decide_eq_true c)]
   exact ⟨i, rfl, by rw [decide_eq_true h, decide_eq_true c]; rfl⟩
  ·rw [if_neg (by rw [decide_eq_false c]; decide)]
   exact ⟨t, h1, by rw [h2, decide_eq_false c]; rfl⟩
theorem contains_eq (l : List ByteArray) : slices_ContainsFunc_string_string.f l 84 = some (l.any fun s => decide ((s.size : Int) > 8)) := by
 obtain ⟨t, h1, h2⟩ := idx_eq l 0 z7_
 unfold slices_ContainsFunc_string_string.f slices_IndexFunc_string_string.f
 rw [if_pos rfl, h1, Option.bind_some, h2]
theorem all_any (l : List ByteArray) : (l.all fun s => decide (s.size ≤ 8)) = !(l.any fun s => decide ((s.size : Int) > 8)) := by
 induction l with
 | nil => rfl
 | cons s r ih =>
  rw [List.all_cons, List.any_cons, ih, Bool.not_or]
  congr 1
  by_cases c : s.size ≤ 8
  ·rw [decide_eq_true c, decide_eq_false z7_]; rfl
  ·rw [decide_eq_false c, decide_eq_true z7_]; rfl
theorem right_go (x0 x6 : List Vo) (hl : x6.length ≤ 9223372036854775807) : ∀ (m i : Nat) (last : Int), x6.length - i ≤ m → i ≤ x6.length → Runs (fun k => vols_Right.l0 k x0 last x6 (x6.length : Int) (i : Int)) (fun r => r = (rightFrom last (x6.drop i) && decide (x0.length ≤ 4))) := by
 intro m
 induction m with
 | zero =>
  intro i last h1 h2
  refine Runs.now _ rfl 1 (fun k hk => ?_)
  obtain ⟨k, rfl⟩ : ∃ q, k = q + 1 := ⟨k - 1, z7_⟩
  rw [vols_Right.l0, if_neg z7_, List.drop_of_length_le z7_, rightFrom, Bool.true_and]
  congr 1
  by_cases c : x0.length ≤ 4
  ·rw [decide_eq_true c, decide_eq_true z7_]
  ·rw [decide_eq_false c, decide_eq_false z7_]
 | succ m ih =>
  intro i last h1 h2
  by_cases c : i < x6.length
  ·have hw : wrap64 ((i : Int) + 1) = ((i + 1 : Nat) : Int) := by unfold wrap64; omega
   have e1 : rd_T137 x6 (i : Int) = x6[i] := by
    unfold rd_T137
    rw [Int.toNat_natCast, List.getD_eq_getElem?_getD, List.getElem?_eq_getElem c]
    rfl
   have hd : x6.drop i = x6[i] :: x6.drop (i + 1) := List.drop_eq_getElem_cons c
   have hbad : ∀ (hx : rightFrom last (x6.drop i) = false) (p0 : Int) (p1 : List ByteArray), Runs (fun k => vols_Right.j1 k x0 x6 (x6.length : Int) (i : Int) true p0 p1) (fun r => r = (rightFrom last (x6.drop i) && decide (x0.length ≤ 4))) := fun hx p0 p1 => by
    refine Runs.now false (by rw [hx]; rfl) 1 (fun k hk => ?_)
    obtain ⟨k, rfl⟩ : ∃ q, k = q + 1 := ⟨k - 1, z7_⟩
    rw [vols_Right.j1, if_pos rfl]
   by_cases c1 : x6[i].f0 ≤ last
   ·refine Runs.step (hbad z151_ x6[i].f0 x6[i].f1) 0 (fun k hk => ?_)
    rw [vols_Right.l0, if_pos z7_, if_pos z7_, if_pos z7_, e1, if_pos c1]
   ·by_cases c2 : x6[i].f0 > 255
    ·refine Runs.step (hbad z151_ x6[i].f0 x6[i].f1) 0 (fun k hk => ?_)
     rw [vols_Right.l0, if_pos z7_, if_pos z7_, if_pos z7_, e1, if_neg c1, if_pos c2]
    ·by_cases c3 : 1 ≤ x6[i].f1.length ∧ x6[i].f1.length ≤ 32
     ·have hsz : vols_size.f (x6[i].f1.length : Int) = some true := by unfold vols_size.f; rw [if_pos z7_, decide_eq_true z7_]
      by_cases c4 : (x6[i].f1.any fun s => decide ((s.size : Int) > 8)) = true
      ·refine Runs.step (F := fun k => vols_Right.j1 k x0 x6 (x6.length : Int) (i : Int) false x6[i].f0 x6[i].f1) (Runs.now false (by rw [hd, rightFrom, all_any, c4, Bool.not_true, Bool.and_false]; rfl) 1 (fun k hk => ?_)) 0 (fun k hk => ?_)
       ·obtain ⟨k, rfl⟩ : ∃ q, k = q + 1 := ⟨k - 1, z7_⟩
        rw [vols_Right.j1, if_neg z8_, contains_eq, Option.bind_some, if_pos c4]
       ·rw [vols_Right.l0, if_pos z7_, if_pos z7_, if_pos z7_, e1, if_neg c1, if_neg c2, hsz]
        rfl
      ·have hg := (ih (i + 1) x6[i].f0 z7_ z7_).post (Q := fun r => r = (rightFrom last (x6.drop i) && decide (x0.length ≤ 4))) (fun r hr => by
        rw [hr, hd, rightFrom, all_any, Bool.eq_false_iff.2 c4, decide_eq_true (p := last < x6[i].f0 ∧ x6[i].f0 ≤ 255 ∧ 1 ≤ x6[i].f1.length ∧ x6[i].f1.length ≤ 32) ⟨z7_, z7_, c3.1, c3.2⟩]; rfl)
       refine Runs.step (F := fun k => vols_Right.j1 k x0 x6 (x6.length : Int) (i : Int) false x6[i].f0 x6[i].f1) (Runs.step hg 0 (fun k hk => ?_)) 0 (fun k hk => ?_)
       ·rw [vols_Right.j1, if_neg z8_, contains_eq, Option.bind_some, if_neg c4, hw]
       ·rw [vols_Right.l0, if_pos z7_, if_pos z7_, if_pos z7_, e1, if_neg c1, if_neg c2, hsz]
        rfl
     ·have hsz : vols_size.f (x6[i].f1.length : Int) = some false := by
       unfold vols_size.f
       by_cases c5 : (x6[i].f1.length : Int) ≥ 1
       ·rw [if_pos c5, decide_eq_false z7_]
       ·rw [if_neg c5]
      refine Runs.step (hbad z151_ x6[i].f0 x6[i].f1) 0 (fun k hk => ?_)
      rw [vols_Right.l0, if_pos z7_, if_pos z7_, if_pos z7_, e1, if_neg c1, if_neg c2, hsz]
      rfl
  ·refine Runs.now _ rfl 1 (fun k hk => ?_)
   obtain ⟨k, rfl⟩ : ∃ q, k = q + 1 := ⟨k - 1, z7_⟩
   rw [vols_Right.l0, if_neg z7_, List.drop_of_length_le z7_, rightFrom, Bool.true_and]
   congr 1
   by_cases c : x0.length ≤ 4
   ·rw [decide_eq_true c, decide_eq_true z7_]
   ·rw [decide_eq_false c, decide_eq_false z7_]
theorem right_run (vs : List Vo) (hl : vs.length ≤ 9223372036854775807) : Runs (fun k => vols_Right.f k vs) (fun r => r = right vs) := right_go vs vs hl vs.length 0 0 z7_ z7_
theorem right_true {vs : List Vo} (h : right vs = true) : Runs (fun k => vols_Right.f k vs) (fun r => r = true) := by
 have hl : vs.length ≤ 4 := by
  unfold right at h
  rw [Bool.and_eq_true, decide_eq_true_eq] at h
  exact h.2
 exact (right_run vs z7_).post (fun r hr => hr.trans h)
theorem at_ok {p q : Int} : ∀ {vs : List Vo} {i : Nat}, (blk p q vs).isSome = true → ∃ j, vols_at.go p q vs i = .ok j
 | [], i, h => by cases h
 | v :: r, i, h => by
  rw [blk] at h
  rw [vols_at.go]
  by_cases c : v.f0 = p
  ·rw [if_pos c] at h ⊢
   by_cases c1 : q < 0
   ·rw [if_pos c1] at h; cases h
   ·rw [if_neg c1, isSome_at, decide_eq_true_eq] at h
    rw [if_neg z7_]
    exact ⟨i, rfl⟩
  ·rw [if_neg c] at h ⊢
   exact at_ok h
theorem at_blk {p q : Int} : ∀ {vs : List Vo} {i j : Nat}, vols_at.go p q vs i = .ok j → (blk p q vs).isSome = true
 | [], i, j, h => by cases h
 | v :: r, i, j, h => by
  rw [vols_at.go] at h
  rw [blk]
  by_cases c : v.f0 = p
  ·rw [if_pos c] at h ⊢
   by_cases c1 : q < 0 ∨ (v.f1.length : Int) ≤ q
   ·rw [if_pos c1] at h; cases h
   ·rw [if_neg z7_, isSome_at]
    exact decide_eq_true z7_
  ·rw [if_neg c] at h ⊢
   exact at_blk h
theorem check_ok {vs : List Vo} : ∀ {ws : List Wr}, okWs vs ws → vols_Check.go vs ws = 0
 | [], _ => rfl
 | x :: r, h => by
  obtain ⟨h1, h2⟩ := h x List.mem_cons_self
  obtain ⟨j, hj⟩ := at_ok (i := 0) h1
  rw [vols_Check.go, hj]
  show (if (x.f2.size : Int) > 8 then 5 else vols_Check.go vs r) = 0
  rw [if_neg z7_]
  exact check_ok (fun y hy => h y (List.mem_cons_of_mem _ hy))
theorem ok_check {vs : List Vo} : ∀ {ws : List Wr}, vols_Check.go vs ws = 0 → okWs vs ws
 | [], _ => fun x hx => by cases hx
 | x :: r, h => by
  rw [vols_Check.go] at h
  cases hj : vols_at.go x.f0 x.f1 vs 0 with
  | error c =>
   rw [hj] at h
   exact absurd h (vols_at.go_ne hj)
  | ok j =>
   rw [hj] at h
   change (if (x.f2.size : Int) > 8 then 5 else vols_Check.go vs r) = 0 at h
   by_cases c : (x.f2.size : Int) > 8
   ·rw [if_pos c] at h; omega
   ·rw [if_neg c] at h
    intro y hy
    rcases List.mem_cons.1 hy with hy | hy
    ·rw [hy]; exact ⟨at_blk hj, z7_⟩
    ·exact ok_check h y hy
theorem at_put {x : Wr} : ∀ {vs : List Vo} {i j : Nat}, vols_at.go x.f0 x.f1 vs i = .ok j → i ≤ j ∧ vs.set (j - i) ⟨(vs.getD (j - i) z137).f0, (vs.getD (j - i) z137).f1.set x.f1.toNat x.f2⟩ = put1 x vs
 | [], i, j, h => by cases h
 | v :: r, i, j, h => by
  rw [vols_at.go] at h
  rw [put1]
  by_cases c : v.f0 = x.f0
  ·rw [if_pos c] at h ⊢
   by_cases c1 : x.f1 < 0 ∨ (v.f1.length : Int) ≤ x.f1
   ·rw [if_pos c1] at h; cases h
   ·rw [if_neg c1] at h
    injection h with h
    subst h
    rw [Nat.sub_self, if_neg z7_]
    exact ⟨Nat.le_refl _, rfl⟩
  ·rw [if_neg c] at h ⊢
   obtain ⟨h1, h2⟩ := at_put h
   refine ⟨z7_, ?_⟩
   rw [show j - i = (j - (i + 1)) + 1 from z7_, List.set_cons_succ, List.getD_cons_succ, h2]
theorem apply_go : ∀ {ws : List Wr} {vs : List Vo}, okWs vs ws → vols_Apply.go vs ws = some (app vs ws)
 | [], vs, _ => rfl
 | x :: r, vs, h => by
  obtain ⟨h1, h2⟩ := h x List.mem_cons_self
  obtain ⟨j, hj⟩ := at_ok (i := 0) h1
  have hp := (at_put hj).2
  rw [Nat.sub_zero] at hp
  rw [vols_Apply.go, hj]
  show vols_Apply.go (vs.set j ⟨(vs.getD j z137).f0, (vs.getD j z137).f1.set x.f1.toNat x.f2⟩) r = _
  rw [hp, app_cons]
  exact apply_go (okWs_shape (shape_put1 x vs).symm (fun y hy => h y (List.mem_cons_of_mem _ hy)))
theorem clone_go (x6 : List Vo) (hl : x6.length ≤ 4) (hb : ∀ v ∈ x6, v.f1.length ≤ 32) : ∀ (m i : Nat), x6.length - i ≤ m → i ≤ x6.length → Runs (fun k => vols_clone.l0 k (x6.take i) x6 (x6.length : Int) (i : Int)) (fun r => r = x6) := by
 intro m
 induction m with
 | zero =>
  intro i h1 h2
  refine Runs.now (x6.take i) (List.take_of_length_le z7_) 1 (fun k hk => ?_)
  obtain ⟨k, rfl⟩ : ∃ q, k = q + 1 := ⟨k - 1, z7_⟩
  rw [vols_clone.l0, if_neg z7_]
 | succ m ih =>
  intro i h1 h2
  by_cases c : i < x6.length
  ·have hw : wrap64 ((i : Int) + 1) = ((i + 1 : Nat) : Int) := by unfold wrap64; omega
   have e1 : rd_T137 x6 (i : Int) = x6[i] := by
    unfold rd_T137
    rw [Int.toNat_natCast, List.getD_eq_getElem?_getD, List.getElem?_eq_getElem c]
    rfl
   have hc : slices_Clone_string_string.f x6[i].f1 = some x6[i].f1 := by
    have := hb x6[i] (List.getElem_mem c)
    unfold slices_Clone_string_string.f
    rw [if_pos z7_]
   have hg := ih (i + 1) z7_ z7_
   refine Runs.step hg 0 (fun k hk => ?_)
   rw [vols_clone.l0, if_pos z7_, if_pos z7_, if_pos z7_, e1, hc]
   show (if (x6.take i).length < 4398046511104 then _ else none) = _
   rw [if_pos z145_, hw, List.take_succ_eq_append_getElem c]
  ·refine Runs.now (x6.take i) (List.take_of_length_le z7_) 1 (fun k hk => ?_)
   obtain ⟨k, rfl⟩ : ∃ q, k = q + 1 := ⟨k - 1, z7_⟩
   rw [vols_clone.l0, if_neg z7_]
theorem right_small {vs : List Vo} (h : right vs = true) : vs.length ≤ 4 ∧ ∀ v ∈ vs, v.f1.length ≤ 32 := by
 unfold right at h
 rw [Bool.and_eq_true, decide_eq_true_eq] at h
 refine ⟨h.2, ?_⟩
 have : ∀ (vs : List Vo) (last : Int), rightFrom last vs = true → ∀ v ∈ vs, v.f1.length ≤ 32 := by
  intro vs
  induction vs with
  | nil => intro _ _ v hv; cases hv
  | cons u r ih =>
   intro last h v hv
   obtain ⟨_, _, _, h4, _, h6⟩ := rightFrom_cons h
   rcases List.mem_cons.1 hv with hv | hv
   ·rw [hv]; exact h4
   ·exact ih _ h6 v hv
 exact this vs 0 h.1
theorem clone_run {vs : List Vo} (h : right vs = true) : Runs (fun k => vols_clone.f k vs) (fun r => r = vs) := clone_go vs (right_small h).1 (right_small h).2 vs.length 0 z7_ z7_
theorem check_run {vs : List Vo} (h : right vs = true) (ws : List Wr) : Runs (fun k => vols_Check.f k vs ws) (fun r => r = vols_Check.go vs ws) :=
 Runs.bind (G := fun _ b => some (if b = true then vols_Check.go vs ws else 1)) (right_true h) (fun r hr => Runs.now _ (by rw [hr, if_pos rfl]) 0 (fun k _ => rfl))
theorem apply_run {vs : List Vo} (h : right vs = true) {ws : List Wr} (ho : okWs vs ws) : Runs (fun k => vols_Apply.f k vs ws) (fun r => r = (app vs ws, 0)) := by
 refine Runs.bind (G := fun k e => if e = 0 then ((vols_clone.f k vs).bind fun o => (vols_Apply.go o ws).bind fun r => some (r, (0 : Int))) else some ([], e)) (check_run h ws) (fun e he => ?_)
 rw [check_ok ho] at he
 subst he
 refine (Runs.bind (G := fun _ o => (vols_Apply.go o ws).bind fun r => some (r, (0 : Int))) (Q := fun r => r = (app vs ws, 0)) (clone_run h) (fun o hv => ?_)).same 0 (fun k _ => if_pos rfl)
 subst hv
 exact Runs.now _ rfl 0 (fun k _ => by show (vols_Apply.go o ws).bind _ = _; rw [apply_go ho]; rfl)
theorem apply_bad {vs : List Vo} (h : right vs = true) {ws : List Wr} (ho : ¬ okWs vs ws) : Runs (fun k => vols_Apply.f k vs ws) (fun r => r.1 = [] ∧ r.2 ≠ 0) := by
 refine Runs.bind (G := fun k e => if e = 0 then ((vols_clone.f k vs).bind fun o => (vols_Apply.go o ws).bind fun r => some (r, (0 : Int))) else some ([], e)) (check_run h ws) (fun e he => ?_)
 have hne : e ≠ 0 := fun h0 => ho (ok_check (he.symm.trans h0))
 exact Runs.now ([], e) ⟨rfl, hne⟩ 0 (fun k _ => if_neg hne)
theorem get_go {p q : Int} {s : ByteArray} {vs : List Vo} (h : blk p q vs = some s) : vols_Get.go vs p q = (s, 0) := by
 have key : ∀ (vs : List Vo) (i : Nat), blk p q vs = some s → ∃ j, vols_at.go p q vs i = .ok (i + j) ∧ rdOf ByteArray.empty (vs.getD j z137).f1 q = s := by
  intro vs
  induction vs with
  | nil => intro i h; cases h
  | cons v r ih =>
   intro i h
   rw [blk] at h
   rw [vols_at.go]
   by_cases c : v.f0 = p
   ·rw [if_pos c] at h ⊢
    by_cases c1 : q < 0
    ·rw [if_pos c1] at h; cases h
    ·rw [if_neg c1] at h
     obtain ⟨hlt, hv⟩ := List.getElem?_eq_some_iff.1 h
     rw [if_neg z7_]
     refine ⟨0, rfl, ?_⟩
     unfold rdOf
     rw [List.getD_cons_zero, List.getD_eq_getElem?_getD, h]
     rfl
   ·rw [if_neg c] at h ⊢
    obtain ⟨j, h1, h2⟩ := ih (i + 1) h
    exact ⟨j + 1, by rw [h1]; congr 1; omega, by rw [List.getD_cons_succ]; exact h2⟩
 obtain ⟨j, h1, h2⟩ := key vs 0 h
 unfold vols_Get.go
 rw [h1]
 show (rdOf ByteArray.empty (rd_T137 vs ((0 + j : Nat) : Int)).f1 q, (0 : Int)) = (s, 0)
 rw [Nat.zero_add]
 unfold rd_T137
 rw [Int.toNat_natCast, h2]
theorem get_run {vs : List Vo} (h : right vs = true) {p q : Int} {s : ByteArray} (hb : blk p q vs = some s) : Runs (fun k => vols_Get.f k vs p q) (fun r => r = (s, 0)) :=
 Runs.bind (G := fun _ b => some (if b = true then vols_Get.go vs p q else (⟨#[]⟩, 1))) (right_true h) (fun r hr => Runs.now _ (by rw [hr, if_pos rfl, get_go hb]) 0 (fun k _ => rfl))
end Go.Proofs.Ytecfndblgefhdaa.Law
