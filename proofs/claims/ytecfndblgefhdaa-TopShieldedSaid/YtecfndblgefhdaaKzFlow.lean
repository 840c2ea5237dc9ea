import Derived.Test.YtecfndblgefhdaaKzWz
set_option linter.unusedVariables false
set_option linter.unusedSimpArgs false
namespace Go.Proofs.Ytecfndblgefhdaa.Flow
open Go.RowKit Go.Proofs.YtecfndblgefhdaaW.PrintWords Go.Proofs.YtecfndblgefhdaaW.PrintLast
section
variable {P : Program} {ops : Array Oper} {Q : Exit → Act → World → Prop} {id : Nat}
def und (n : Nat) (L : Array Bool) : Nat := (List.range n).countP fun i => !L.getD i true
theorem countP_less {p q : Nat → Bool} {i : Nat} (h1 : p i = true) (h2 : q i = false) (h3 : ∀ x, x ≠ i → q x = p x) : ∀ l : List Nat, l.countP q + (if i ∈ l then 1 else 0) ≤ l.countP p
 | [] => by simp
 | x :: r => by
  have ih := countP_less h1 h2 h3 r
  rw [List.countP_cons, List.countP_cons]
  by_cases c : x = i
  ·subst c
   rw [h1, h2, if_pos List.mem_cons_self]
   simp only [if_true]
   have : (if x ∈ r then 1 else 0) ≥ 0 := Nat.zero_le _
   simp
   omega
  ·rw [h3 x c]
   have e : (i ∈ x :: r) ↔ i ∈ r := ⟨fun h => by rcases List.mem_cons.1 h with h | h; exact absurd h.symm c; exact h, List.mem_cons_of_mem _⟩
   simp only [e]
   omega
theorem und_set {n : Nat} {L : Array Bool} {i : Nat} (hi : i < n) (hs : L.size = n) (h : L.getD i true = false) : und n (L.setIfInBounds i true) + 1 ≤ und n L := by
 have h0 := countP_less (p := fun i => !L.getD i true) (q := fun j => !(L.setIfInBounds i true).getD j true) (i := i) (by simp only [h]; rfl) (by simp [hs, hi])
  (fun x hx => by simp [Array.getElem?_setIfInBounds, Ne.symm hx]) (List.range n)
 rw [if_pos (List.mem_range.2 hi)] at h0
 exact h0
theorem und_zero {n : Nat} {L : Array Bool} (h : und n L = 0) {i : Nat} (hi : i < n) : L.getD i true = true := by
 cases c : L.getD i true with
 | true => rfl
 | false =>
  have : 0 < und n L := List.countP_pos_iff.2 ⟨i, List.mem_range.2 hi, by rw [c]; rfl⟩
  omega
structure Inv (ops : Array Oper) (R : Nat → World → Value → Prop) (w1 : World) (a0 : Act) (L : Array Bool) (a : Act) (w : World) : Prop where
 sz : L.size = ops.size
 bel : Below w1.heap.size w1 w
 ds : a.defers = a0.defers
 ts : a.tmps.size = a0.tmps.size
 out : ∀ t : Tmp, (∀ (j : Nat) (o : Oper), ops[j]? = some o → o.dst ≠ some t) → a.tmps.getD t undef = a0.tmps.getD t undef
 did : ∀ (j : Nat) (o : Oper) (t : Tmp), ops[j]? = some o → L.getD j true = true → o.dst = some t → R j w (a.tmps.getD t undef)
theorem getD_true {L : Array Bool} {i : Nat} (hi : i < L.size) (h : L.getD i true = true) : L.getD i false = true := by
 simpa [hi] using h
theorem getD_false {L : Array Bool} {i : Nat} (hi : i < L.size) (h : L.getD i false = true) : L.getD i true = true := by
 simpa [hi] using h
variable {R : Nat → World → Value → Prop} {a0 : Act} {w1 : World}
theorem all_done (hback : ∀ (i : Nat) (o : Oper), ops[i]? = some o → ∀ e ∈ o.after, Region.binds .any e = true → e.on < i) {L : Array Bool} (hs : L.size = ops.size) (h : Region.ready .any ops L = []) : ∀ i, i < ops.size → L.getD i true = true := by
 intro i
 induction i using Nat.strongRecOn with
 | ind i ih =>
  intro hi
  cases c : L.getD i true with
  | true => rfl
  | false =>
   have ho : ops[i]? = some ops[i] := Array.getElem?_eq_getElem hi
   have : i ∈ Region.ready .any ops L := mem_ready.2 ⟨c, _, ho, fun e he hb => by
    have h1 := hback i _ ho e he hb
    exact getD_true z7_ (ih e.on h1 z7_)⟩
   rw [h] at this
   cases this
theorem flow_any (hds : ∀ (i : Nat) (o : Oper), ops[i]? = some o → ∃ t, o.dst = some t ∧ t < a0.tmps.size ∧ ∀ (j : Nat) (o' : Oper), ops[j]? = some o' → o'.dst = some t → j = i)
  (hback : ∀ (i : Nat) (o : Oper), ops[i]? = some o → ∀ e ∈ o.after, Region.binds .any e = true → e.on < i)
  (hR : ∀ i w w' v, Below w.heap.size w w' → R i w v → R i w' v)
  (hstep : ∀ (i : Nat) (o : Oper), ops[i]? = some o → ∀ a w, Below w1.heap.size w1 w → (∀ t : Tmp, (∀ (j : Nat) (o' : Oper), ops[j]? = some o' → o'.dst ≠ some t) → a.tmps.getD t undef = a0.tmps.getD t undef) →
   (∀ e ∈ o.after, Region.binds .any e = true → ∀ (o' : Oper) (t : Tmp), ops[e.on]? = some o' → o'.dst = some t → R e.on w (a.tmps.getD t undef)) →
   ∀ K : Act → World → Prop, Shut (∀ v w', Below w.heap.size w w' → R i w' v → K (a.put o.dst v) w') → if Region.wanted o (yielded ops a.tmps) = true then Oper.wp P o a w K Q else K (a.put o.dst undef) w)
  (hfin : ∀ a w, Below w1.heap.size w1 w → a.defers = a0.defers → a.tmps.size = a0.tmps.size → (∀ t : Tmp, (∀ (j : Nat) (o' : Oper), ops[j]? = some o' → o'.dst ≠ some t) → a.tmps.getD t undef = a0.tmps.getD t undef) →
   (∀ (i : Nat) (o : Oper) (t : Tmp), ops[i]? = some o → o.dst = some t → R i w (a.tmps.getD t undef)) → Q .normal a w) :
  ∀ fuel L a w, und ops.size L ≤ fuel → Inv ops R w1 a0 L a w → wpAnyLast P .any ops Q (fun _ => True) [] fuel L a w := by
 have hend : ∀ L a w, Inv ops R w1 a0 L a w → (∀ i, i < ops.size → L.getD i true = true) → Q .normal a w := fun L a w hI hall =>
  hfin a w hI.bel hI.ds hI.ts hI.out (fun i o t ho ht => hI.did i o t ho (hall i (Array.getElem?_eq_some_iff.1 ho).1) ht)
 intro fuel
 induction fuel with
 | zero =>
  intro L a w hu hI
  have hall : ∀ i, i < ops.size → L.getD i true = true := fun i hi => und_zero z7_ hi
  refine ⟨?_, hend L a w hI hall⟩
  cases hr : Region.ready .any ops L with
  | nil => rfl
  | cons j r =>
   have hj : j ∈ Region.ready .any ops L := by rw [hr]; exact List.mem_cons_self
   obtain ⟨h1, o, ho, _⟩ := mem_ready.1 hj
   rw [hall j (Array.getElem?_eq_some_iff.1 ho).1] at h1
   cases h1
 | succ fuel ih =>
  intro L a w hu hI
  refine ⟨fun hr => hend L a w hI (all_done hback hI.sz hr), fun i hi => ?_⟩
  obtain ⟨hun, o, ho, hall⟩ := mem_ready.1 hi
  have hlt : i < ops.size := (Array.getElem?_eq_some_iff.1 ho).1
  obtain ⟨t, ht, htl, hone⟩ := hds i o ho
  refine wpOp_step ho (fun K' hK => hstep i o ho a w hI.bel hI.out (fun e he hb o' t' ho' ht' => ?_) K' (fun v w' hb hr => hK _ _ ⟨fun _ _ => trivial, ih _ _ _ ?_ ?_⟩))
  ·refine hI.did e.on o' t' ho' (getD_false ?_ (hall e he hb)) ht'
   rw [hI.sz]
   exact (Array.getElem?_eq_some_iff.1 ho').1
  ·have := und_set hlt hI.sz hun
   omega
  ·have hput : (a.put o.dst v).tmps = a.tmps.setIfInBounds t v := by rw [ht]; rfl
   have hget : ∀ s, s ≠ t → (a.put o.dst v).tmps.getD s undef = a.tmps.getD s undef := fun s hs => by
    rw [hput]; simp [Array.getElem?_setIfInBounds, Ne.symm hs]
   refine ⟨by rw [Array.size_setIfInBounds]; exact hI.sz, below_step hI.bel hb, by rw [ht]; exact hI.ds, by rw [hput, Array.size_setIfInBounds]; exact hI.ts, fun s hs => ?_, fun j o' s ho' hd' hs' => ?_⟩
   ·rw [hget s (fun e => hs i o ho (by rw [e]; exact ht))]
    exact hI.out s hs
   ·by_cases c : j = i
    ·subst c
     rw [ho] at ho'
     obtain rfl := Option.some.inj ho'
     rw [ht] at hs'
     obtain rfl := Option.some.inj hs'
     have : (a.put o.dst v).tmps.getD t undef = v := by rw [hput]; simp [hI.ts, htl]
     rw [this]
     exact hr
    ·have hs2 : s ≠ t := fun e => c (hone j o' ho' (by rw [hs', e]))
     rw [hget s hs2]
     refine hR j w w' _ hb (hI.did j o' s ho' ?_ hs')
     simpa [Array.getElem?_setIfInBounds, Ne.symm c] using hd'
def dstsB (ops : Array Oper) (n : Nat) : Bool := (List.range ops.size).all fun i => match ops[i]? with
 | none => true
 | some o => match o.dst with
  | none => false
  | some t => decide (t < n) && (List.range ops.size).all fun j => j == i || match ops[j]? with
   | none => true
   | some o' => o'.dst != some t
def backB (ops : Array Oper) : Bool := (List.range ops.size).all fun i => match ops[i]? with
 | none => true
 | some o => o.after.all fun e => !Region.binds .any e || decide (e.on < i)
theorem dsts_of {n : Nat} (h : dstsB ops n = true) : ∀ (i : Nat) (o : Oper), ops[i]? = some o → ∃ t, o.dst = some t ∧ t < n ∧ ∀ (j : Nat) (o' : Oper), ops[j]? = some o' → o'.dst = some t → j = i := by
 intro i o ho
 have h1 := List.all_eq_true.1 h i (List.mem_range.2 (Array.getElem?_eq_some_iff.1 ho).1)
 rw [ho] at h1
 dsimp only at h1
 cases ht : o.dst with
 | none => rw [ht] at h1; cases h1
 | some t =>
  rw [ht] at h1
  dsimp only at h1
  rw [Bool.and_eq_true, decide_eq_true_eq] at h1
  refine ⟨t, rfl, h1.1, fun j o' ho' hd => ?_⟩
  have h2 := List.all_eq_true.1 h1.2 j (List.mem_range.2 (Array.getElem?_eq_some_iff.1 ho').1)
  rw [ho'] at h2
  dsimp only at h2
  rw [hd] at h2
  simpa using h2
theorem back_of (h : backB ops = true) : ∀ (i : Nat) (o : Oper), ops[i]? = some o → ∀ e ∈ o.after, Region.binds .any e = true → e.on < i := by
 intro i o ho e he hb
 have h1 := List.all_eq_true.1 h i (List.mem_range.2 (Array.getElem?_eq_some_iff.1 ho).1)
 rw [ho] at h1
 dsimp only at h1
 have h2 := Array.all_eq_true_iff_forall_mem.1 h1 e he
 rw [hb] at h2
 simpa using h2
theorem flow_ {w0 : World} (n : Nat) (hn : a0.tmps.size = n) (hm : P.follows .mixedOrders = true) (hd : dstsB ops n = true) (hb : backB ops = true) (R : Nat → World → Value → Prop)
  (hR : ∀ i w w' v, Below w.heap.size w w' → R i w v → R i w' v)
  (hstep : ∀ (i : Nat) (o : Oper), ops[i]? = some o → ∀ a w, Below w0.drew.heap.size w0.drew w → (∀ t : Tmp, (∀ (j : Nat) (o' : Oper), ops[j]? = some o' → o'.dst ≠ some t) → a.tmps.getD t undef = a0.tmps.getD t undef) →
   (∀ e ∈ o.after, Region.binds .any e = true → ∀ (o' : Oper) (t : Tmp), ops[e.on]? = some o' → o'.dst = some t → R e.on w (a.tmps.getD t undef)) →
   ∀ K : Act → World → Prop, Shut (∀ v w', Below w.heap.size w w' → R i w' v → K (a.put o.dst v) w') → if Region.wanted o (yielded ops a.tmps) = true then Oper.wp P o a w K Q else K (a.put o.dst undef) w)
  (hfin : ∀ a w, Below w0.drew.heap.size w0.drew w → a.defers = a0.defers → a.tmps.size = a0.tmps.size → (∀ t : Tmp, (∀ (j : Nat) (o' : Oper), ops[j]? = some o' → o'.dst ≠ some t) → a.tmps.getD t undef = a0.tmps.getD t undef) →
   (∀ (i : Nat) (o : Oper) (t : Tmp), ops[i]? = some o → o.dst = some t → R i w (a.tmps.getD t undef)) → Q .normal a w) : (Code.region id ops true).wp P Q a0 w0 := by
 refine wp_region_last (S := fun _ => True) (ds := []) hm ?_
 refine flow_any (w1 := w0.drew) (a0 := a0) (R := R) (by rw [hn]; exact dsts_of hd) (back_of hb) hR hstep hfin _ _ _ _ ?_ ?_
 ·exact Nat.le_trans List.countP_le_length (by simp)
 ·exact ⟨by simp, Below.refl _ _, rfl, rfl, fun _ _ => rfl, fun j o t ho hd _ => by
   have := (Array.getElem?_eq_some_iff.1 ho).1
   simp [this] at hd⟩
structure MR where
 r : World → Value → Prop
 m : ∀ w w' v, Below w.heap.size w w' → r w v → r w' v
def MR.is (u : Value) : MR := ⟨fun _ v => v = u, fun _ _ _ _ h => h⟩
def MR.any : MR := ⟨fun _ _ => True, fun _ _ _ _ h => h⟩
def AllF (Φ : Nat → Oper → Prop) : Nat → List Oper → Prop
 | _, [] => True
 | s, o :: r => Φ s o ∧ AllF Φ (s + 1) r
theorem all_of {Φ : Nat → Oper → Prop} : ∀ (l : List Oper) (s : Nat), AllF Φ s l → ∀ (i : Nat) (o : Oper), l[i]? = some o → Φ (s + i) o
 | [], _, _, i, o, h => by simp at h
 | x :: r, s, hA, 0, o, h => by
  obtain rfl : x = o := by simpa using h
  exact hA.1
 | x :: r, s, hA, i + 1, o, h => by
  have := all_of r (s + 1) hA.2 i o (by simpa using h)
  rwa [show s + 1 + i = s + (i + 1) from z7_] at this
theorem notdst {t : Tmp} (h : (ops.toList.all fun o => o.dst != some t) = true) : ∀ (j : Nat) (o : Oper), ops[j]? = some o → o.dst ≠ some t := by
 intro j o ho e
 have h1 := List.all_eq_true.1 h o (by rw [Array.mem_toList_iff]; exact Array.mem_of_getElem? ho)
 rw [e] at h1
 simp at h1
theorem flowL {w0 : World} (n : Nat) (hn : a0.tmps.size = n) (hm : P.follows .mixedOrders = true) (hd : dstsB ops n = true) (hb : backB ops = true) (L : List MR)
  (hstep : AllF (fun i o => ∀ (a : Act) (w : World), Below w0.drew.heap.size w0.drew w → (∀ t : Tmp, (ops.toList.all fun o => o.dst != some t) = true → a.tmps.getD t undef = a0.tmps.getD t undef) →
   (∀ (q : Nat) (e : Edge), o.after[q]? = some e → Region.binds .any e = true → ∀ (o' : Oper) (t : Tmp), ops[e.on]? = some o' → o'.dst = some t → (L.getD e.on MR.any).r w (a.tmps.getD t undef)) →
   ∀ K : Act → World → Prop, Shut (∀ v w', Below w.heap.size w w' → (L.getD i MR.any).r w' v → K (a.put o.dst v) w') → if Region.wanted o (yielded ops a.tmps) = true then Oper.wp P o a w K Q else K (a.put o.dst undef) w) 0 ops.toList)
  (hfin : ∀ a w, Below w0.drew.heap.size w0.drew w → a.defers = a0.defers → (∀ (i : Nat) (o : Oper) (t : Tmp), ops[i]? = some o → o.dst = some t → (L.getD i MR.any).r w (a.tmps.getD t undef)) → Q .normal a w) : (Code.region id ops true).wp P Q a0 w0 := by
 refine flow_ n hn hm hd hb (fun i => (L.getD i MR.any).r) (fun i => (L.getD i MR.any).m) (fun i o ho a w hbel hout hdep K hK => ?_) (fun a w h1 h2 _ _ h5 => hfin a w h1 h2 h5)
 have h0 := all_of ops.toList 0 hstep i o (by rw [Array.getElem?_toList]; exact ho) a w hbel (fun t ht => hout t (notdst ht)) (fun q e he hb o' t ho' ht => hdep e (Array.mem_of_getElem? he) hb o' t ho' ht) K
 rw [Nat.zero_add] at h0
 exact h0 hK
end
end Go.Proofs.Ytecfndblgefhdaa.Flow
