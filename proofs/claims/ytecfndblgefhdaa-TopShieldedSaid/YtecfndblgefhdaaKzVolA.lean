import Derived.Test.YtecfndblgefhdaaKzSortC
set_option linter.unusedVariables false
set_option linter.unusedSimpArgs false
namespace Go.Proofs.Ytecfndblgefhdaa.Law
open Go.RowKit Go.Proofs.Ytecfndblgefhdaa.R Go.Proofs.Ytecfndblgefhdaa.Sort Go.Proofs.YtecfndblgefhdaaW.PrintWords Go.Proofs.YtecfndblgefhdaaW.PrintLast Go.Proofs.YtecfndblgefhdaaW.PrintMore
abbrev Vo := S137
def blk (p q : Int) : List Vo → Option ByteArray
 | [] => none
 | v :: r => if v.f0 = p then (if q < 0 then none else v.f1[q.toNat]?) else blk p q r
def put1 (x : Wr) : List Vo → List Vo
 | [] => []
 | v :: r => if v.f0 = x.f0 then (if x.f1 < 0 then v :: r else ⟨v.f0, v.f1.set x.f1.toNat x.f2⟩ :: r) else v :: put1 x r
def app (vs : List Vo) (ws : List Wr) : List Vo := ws.foldl (fun s x => put1 x s) vs
def shape (vs : List Vo) : List (Int × Nat) := vs.map fun v => (v.f0, v.f1.length)
def okW (vs : List Vo) (x : Wr) : Prop := (blk x.f0 x.f1 vs).isSome = true ∧ x.f2.size ≤ 8
def okWs (vs : List Vo) (ws : List Wr) : Prop := ∀ x ∈ ws, okW vs x
theorem app_cons (vs : List Vo) (x : Wr) (r : List Wr) : app vs (x :: r) = app (put1 x vs) r := rfl
theorem app_append (vs : List Vo) (a b : List Wr) : app vs (a ++ b) = app (app vs a) b := List.foldl_append
theorem shape_put1 (x : Wr) : ∀ vs : List Vo, shape (put1 x vs) = shape vs
 | [] => rfl
 | v :: r => by
  rw [put1]
  split
  ·split
   ·rfl
   ·simp [shape]
  ·have := shape_put1 x r
   simp only [shape, List.map_cons] at this ⊢
   rw [this]
theorem shape_app : ∀ (ws : List Wr) (vs : List Vo), shape (app vs ws) = shape vs
 | [], vs => rfl
 | x :: r, vs => by rw [app_cons, shape_app r, shape_put1]
theorem isSome_at {α : Type} (l : List α) (n : Nat) : l[n]?.isSome = decide (n < l.length) := by
 by_cases h : n < l.length
 ·rw [List.getElem?_eq_getElem h, decide_eq_true h]; rfl
 ·rw [List.getElem?_eq_none z7_, decide_eq_false h]; rfl
theorem blk_some : ∀ {a b : List Vo} {p q : Int}, shape a = shape b → (blk p q a).isSome = (blk p q b).isSome
 | [], [], _, _, _ => rfl
 | [], _ :: _, _, _, h => by simp [shape] at h
 | _ :: _, [], _, _, h => by simp [shape] at h
 | v :: r, u :: s, p, q, h => by
  simp only [shape, List.map_cons, List.cons.injEq, Prod.mk.injEq] at h
  obtain ⟨⟨h1, h2⟩, h3⟩ := h
  rw [blk, blk, h1]
  split
  ·split
   ·rfl
   ·rw [isSome_at, isSome_at, h2]
  ·exact blk_some h3
theorem okW_shape {a b : List Vo} {x : Wr} (h : shape a = shape b) (ho : okW a x) : okW b x := ⟨by rw [← blk_some h]; exact ho.1, ho.2⟩
theorem okWs_shape {a b : List Vo} {ws : List Wr} (h : shape a = shape b) (ho : okWs a ws) : okWs b ws := fun x hx => okW_shape h (ho x hx)
theorem blk_put1 (x : Wr) (p q : Int) : ∀ vs : List Vo, blk p q (put1 x vs) = if p = x.f0 ∧ q = x.f1 ∧ (blk p q vs).isSome = true then some x.f2 else blk p q vs
 | [] => by simp [put1, blk]
 | v :: r => by
  rw [put1]
  by_cases c : v.f0 = x.f0
  ·rw [if_pos c]
   by_cases c1 : x.f1 < 0
   ·rw [if_pos c1]
    rw [if_neg]
    rintro ⟨h1, h2, h3⟩
    rw [blk, if_pos z7_, if_pos z7_] at h3
    cases h3
   ·rw [if_neg c1, blk, blk]
    by_cases c2 : v.f0 = p
    ·rw [if_pos c2, if_pos c2]
     by_cases c3 : q < 0
     ·rw [if_pos c3, if_pos c3, if_neg (by rintro ⟨_, h2, _⟩; omega)]
     ·rw [if_neg c3, if_neg c3]
      by_cases c4 : q = x.f1
      ·subst c4
       by_cases c5 : x.f1.toNat < v.f1.length
       ·rw [List.getElem?_set_self c5, if_pos ⟨z7_, rfl, by rw [List.getElem?_eq_getElem c5]; rfl⟩]
       ·rw [List.getElem?_eq_none (by rw [List.length_set]; omega), List.getElem?_eq_none z7_, if_neg (by rintro ⟨_, _, h⟩; cases h)]
      ·rw [List.getElem?_set_ne z7_, if_neg (by rintro ⟨_, h2, _⟩; omega)]
    ·rw [if_neg c2, if_neg c2, if_neg (by rintro ⟨h1, _⟩; omega)]
  ·rw [if_neg c]
   by_cases c2 : v.f0 = p
   ·rw [if_neg (fun h => c (c2.trans h.1)), blk, blk, if_pos c2, if_pos c2]
   ·rw [blk, blk, if_neg c2, if_neg c2]
    exact blk_put1 x p q r
theorem blk_app (p q : Int) : ∀ (ws : List Wr) (vs : List Vo), okWs vs ws → blk p q (app vs ws) = match (ws.filter (isAt p q)).getLast? with
  | some w => some w.f2
  | none => blk p q vs
 | [], vs, _ => rfl
 | x :: r, vs, ho => by
  have h1 : okW vs x := ho x List.mem_cons_self
  rw [app_cons, blk_app p q r (put1 x vs) (okWs_shape (shape_put1 x vs).symm (fun y hy => ho y (List.mem_cons_of_mem _ hy))), List.filter_cons]
  by_cases c : isAt p q x = true
  ·rw [if_pos c]
   unfold isAt at c
   have c := of_decide_eq_true c
   cases hl : (r.filter (isAt p q)).getLast? with
   | some w => rw [List.getLast?_cons, hl]; rfl
   | none =>
    rw [List.getLast?_cons, hl]
    show blk p q (put1 x vs) = some x.f2
    rw [blk_put1, if_pos ⟨c.1.symm, c.2.symm, by rw [← c.1, ← c.2]; exact h1.1⟩]
  ·rw [if_neg c]
   cases hl : (r.filter (isAt p q)).getLast? with
   | some w => rfl
   | none =>
    show blk p q (put1 x vs) = blk p q vs
    rw [blk_put1, if_neg]
    rintro ⟨e1, e2, _⟩
    exact c (decide_eq_true ⟨e1.symm, e2.symm⟩)
def rightFrom : Int → List Vo → Bool
 | _, [] => true
 | last, v :: r => decide (last < v.f0 ∧ v.f0 ≤ 255 ∧ 1 ≤ v.f1.length ∧ v.f1.length ≤ 32) && (v.f1.all fun s => decide (s.size ≤ 8)) && rightFrom v.f0 r
def right (vs : List Vo) : Bool := rightFrom 0 vs && decide (vs.length ≤ 4)
theorem rightFrom_cons {last : Int} {v : Vo} {r : List Vo} (h : rightFrom last (v :: r) = true) : last < v.f0 ∧ v.f0 ≤ 255 ∧ 1 ≤ v.f1.length ∧ v.f1.length ≤ 32 ∧ (∀ s ∈ v.f1, s.size ≤ 8) ∧ rightFrom v.f0 r = true := by
 rw [rightFrom, Bool.and_eq_true, Bool.and_eq_true, decide_eq_true_eq, List.all_eq_true] at h
 obtain ⟨⟨⟨h1, h2, h3, h4⟩, h5⟩, h6⟩ := h
 exact ⟨h1, h2, h3, h4, fun s hs => of_decide_eq_true (h5 s hs), h6⟩
theorem rightFrom_mk {last : Int} {v : Vo} {r : List Vo} (h1 : last < v.f0) (h2 : v.f0 ≤ 255) (h3 : 1 ≤ v.f1.length) (h4 : v.f1.length ≤ 32) (h5 : ∀ s ∈ v.f1, s.size ≤ 8) (h6 : rightFrom v.f0 r = true) : rightFrom last (v :: r) = true := by
 rw [rightFrom, Bool.and_eq_true, Bool.and_eq_true, decide_eq_true_eq, List.all_eq_true]
 exact ⟨⟨⟨h1, h2, h3, h4⟩, fun s hs => decide_eq_true (h5 s hs)⟩, h6⟩
theorem rightFrom_put1 (x : Wr) (hx : x.f2.size ≤ 8) : ∀ (vs : List Vo) (last : Int), rightFrom last vs = true → rightFrom last (put1 x vs) = true
 | [], _, h => rfl
 | v :: r, last, h => by
  obtain ⟨h1, h2, h3, h4, h5, h6⟩ := rightFrom_cons h
  rw [put1]
  split
  ·split
   ·exact h
   ·refine rightFrom_mk h1 h2 (by rw [List.length_set]; exact h3) (by rw [List.length_set]; exact h4) (fun s hs => ?_) h6
    rcases List.mem_or_eq_of_mem_set hs with h | h
    ·exact h5 s h
    ·rw [h]; exact hx
  ·exact rightFrom_mk h1 h2 h3 h4 h5 (rightFrom_put1 x hx r _ h6)
theorem length_shape {a b : List Vo} (h : shape a = shape b) : a.length = b.length := by
 have := congrArg List.length h
 simpa [shape] using this
theorem right_put1 {x : Wr} {vs : List Vo} (hx : x.f2.size ≤ 8) (h : right vs = true) : right (put1 x vs) = true := by
 unfold right at *
 rw [Bool.and_eq_true, decide_eq_true_eq] at *
 exact ⟨rightFrom_put1 x hx vs 0 h.1, by rw [length_shape (shape_put1 x vs)]; exact h.2⟩
theorem right_app : ∀ {ws : List Wr} {vs : List Vo}, okWs vs ws → right vs = true → right (app vs ws) = true
 | [], vs, _, h => h
 | x :: r, vs, ho, h => by
  rw [app_cons]
  exact right_app (okWs_shape (shape_put1 x vs).symm (fun y hy => ho y (List.mem_cons_of_mem _ hy))) (right_put1 (ho x List.mem_cons_self).2 h)
theorem blk_later {last p q : Int} : ∀ {vs : List Vo}, rightFrom last vs = true → p ≤ last → blk p q vs = none
 | [], _, _ => rfl
 | v :: r, h, hp => by
  obtain ⟨h1, _, _, _, _, h6⟩ := rightFrom_cons h
  rw [blk, if_neg z7_]
  exact blk_later h6 z7_
theorem vol_ext : ∀ {a b : List Vo} {last : Int}, shape a = shape b → rightFrom last a = true → rightFrom last b = true → (∀ p q, blk p q a = blk p q b) → a = b
 | [], [], _, _, _, _, _ => rfl
 | [], _ :: _, _, h, _, _, _ => by simp [shape] at h
 | _ :: _, [], _, h, _, _, _ => by simp [shape] at h
 | v :: r, u :: s, last, h, ha, hb, hq => by
  simp only [shape, List.map_cons, List.cons.injEq, Prod.mk.injEq] at h
  obtain ⟨⟨h1, h2⟩, h3⟩ := h
  obtain ⟨_, _, _, _, _, a6⟩ := rightFrom_cons ha
  obtain ⟨_, _, _, _, _, b6⟩ := rightFrom_cons hb
  have e1 : v.f1 = u.f1 := List.ext_getElem? (fun n => by
   have := hq v.f0 (n : Int)
   rw [blk, blk, if_pos rfl, if_pos h1.symm, if_neg z7_, if_neg z7_, Int.toNat_natCast] at this
   exact this)
  have e2 : r = s := by
   refine vol_ext h3 a6 (by rw [h1]; exact b6) (fun p q => ?_)
   by_cases c : v.f0 = p
   ·rw [blk_later a6 z7_, blk_later b6 z7_]
   ·have := hq p q
    rw [blk, blk, if_neg c, if_neg z7_] at this
    exact this
  rw [e2, show v = u by cases v; cases u; simp only at h1 e1; rw [h1, e1]]
theorem right_ext {a b : List Vo} (h : shape a = shape b) (ha : right a = true) (hb : right b = true) (hq : ∀ p q, blk p q a = blk p q b) : a = b := by
 unfold right at *
 rw [Bool.and_eq_true] at ha hb
 exact vol_ext h ha.1 hb.1 hq
end Go.Proofs.Ytecfndblgefhdaa.Law
