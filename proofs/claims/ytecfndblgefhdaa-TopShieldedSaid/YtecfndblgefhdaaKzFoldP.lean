import Derived.Test.YtecfndblgefhdaaKzVolA
import Derived.Test.YtecfndblgefhdaaKzRx12
set_option linter.unusedVariables false
set_option linter.unusedSimpArgs false
namespace Go.Proofs.Ytecfndblgefhdaa.Law
open Go.RowKit Go.Proofs.Ytecfndblgefhdaa.R Go.Proofs.Ytecfndblgefhdaa.Sort Go.Proofs.YtecfndblgefhdaaW.PrintWords Go.Proofs.YtecfndblgefhdaaW.PrintLast Go.Proofs.YtecfndblgefhdaaW.PrintMore
def SSrt (X : List Wr) : Prop := X.Pairwise fun a b => lt a b = true
def IsFold (X r : List Wr) : Prop := SSrt r ∧ ∀ p q, r.filter (isAt p q) = (X.filter (isAt p q)).getLast?.toList
def bytesW (ws : List Wr) : Nat := (ws.map fun w => 8 + w.f2.size).sum
theorem bytesW_cons (w : Wr) (r : List Wr) : bytesW (w :: r) = 8 + w.f2.size + bytesW r := by simp [bytesW]
theorem bytesW_append (a b : List Wr) : bytesW (a ++ b) = bytesW a + bytesW b := by simp [bytesW]
theorem bytesW_perm {a b : List Wr} (h : a.Perm b) : bytesW a = bytesW b := by
 induction h with
 | nil => rfl
 | cons x _ ih => rw [bytesW_cons, bytesW_cons, ih]
 | swap x y l => simp only [bytesW_cons]; omega
 | trans _ _ h1 h2 => exact h1.trans h2
def lasts : List Wr → List Wr
 | [] => []
 | [x] => [x]
 | x :: y :: r => if lt x y = true ∨ lt y x = true then x :: lasts (y :: r) else lasts (y :: r)
theorem lasts_mem : ∀ {X : List Wr} {w : Wr}, w ∈ lasts X → w ∈ X
 | [], w, h => by simp [lasts] at h
 | [x], w, h => h
 | x :: y :: r, w, h => by
  rw [lasts] at h
  split at h
  ·rcases List.mem_cons.1 h with h | h
   ·rw [h]; exact List.mem_cons_self
   ·exact List.mem_cons_of_mem _ (lasts_mem h)
  ·exact List.mem_cons_of_mem _ (lasts_mem h)
theorem lasts_bytes : ∀ X : List Wr, bytesW (lasts X) ≤ bytesW X
 | [] => Nat.le_refl _
 | [x] => Nat.le_refl _
 | x :: y :: r => by
  have := lasts_bytes (y :: r)
  rw [lasts, bytesW_cons x]
  split
  ·rw [bytesW_cons x]; omega
  ·omega
theorem lasts_length : ∀ X : List Wr, (lasts X).length ≤ X.length
 | [] => Nat.le_refl _
 | [x] => Nat.le_refl _
 | x :: y :: r => by
  have := lasts_length (y :: r)
  rw [lasts]
  split
  ·simp only [List.length_cons] at this ⊢; omega
  ·simp only [List.length_cons] at this ⊢; omega
theorem same_key {a b : Wr} (h1 : lt a b = false) (h2 : lt b a = false) : a.f0 = b.f0 ∧ a.f1 = b.f1 := by
 rw [nlt_iff] at *
 omega
theorem isAt_iff {p q : Int} {w : Wr} : isAt p q w = true ↔ w.f0 = p ∧ w.f1 = q := by unfold isAt; exact decide_eq_true_iff
theorem lasts_fold : ∀ {X : List Wr}, Srt X → IsFold X (lasts X)
 | [], _ => ⟨List.Pairwise.nil, fun p q => rfl⟩
 | [x], _ => by
  refine ⟨List.pairwise_singleton _ _, fun p q => ?_⟩
  rw [lasts, List.filter_cons]
  split <;> rfl
 | x :: y :: r, h => by
  obtain ⟨h1, h2⟩ := List.pairwise_cons.1 h
  obtain ⟨i1, i2⟩ := lasts_fold h2
  have hyx : lt y x = false := h1 y List.mem_cons_self
  rw [lasts]
  by_cases c : lt x y = true
  ·rw [if_pos (.inl c)]
   have hall : ∀ z ∈ y :: r, lt x z = true := fun z hz => by
    rcases List.mem_cons.1 hz with hz | hz
    ·rw [hz]; exact c
    ·exact lt_of_lt_le c ((List.pairwise_cons.1 h2).1 z hz)
   refine ⟨List.pairwise_cons.2 ⟨fun z hz => hall z (lasts_mem hz), i1⟩, fun p q => ?_⟩
   rw [List.filter_cons, List.filter_cons (xs := y :: r)]
   by_cases ca : isAt p q x = true
   ·rw [if_pos ca, if_pos ca]
    have hn : ∀ z ∈ y :: r, ¬ (z.f0 = p ∧ z.f1 = q) := fun z hz hk => by
     have h3 := lt_iff.1 (hall z hz)
     have h4 := isAt_iff.1 ca
     omega
    rw [filter_none hn, filter_none (fun z hz => hn z (lasts_mem hz))]
    rfl
   ·rw [if_neg ca, if_neg ca]
    exact i2 p q
  ·rw [if_neg (by rintro (h | h); exact c h; rw [hyx] at h; cases h)]
   refine ⟨i1, fun p q => ?_⟩
   rw [i2 p q, List.filter_cons (x := x)]
   by_cases ca : isAt p q x = true
   ·rw [if_pos ca]
    have hk := same_key (by simpa using c) hyx
    have hy : isAt p q y = true := by rw [isAt_iff] at *; omega
    rw [List.filter_cons, if_pos hy, List.getLast?_cons_cons]
   ·rw [if_neg ca]
theorem IsFold.stb {X Y r : List Wr} (h : Stb X Y) (hf : IsFold Y r) : IsFold X r := ⟨hf.1, fun p q => by rw [hf.2 p q, h p q]⟩
theorem IsFold.mem {X r : List Wr} (h : IsFold X r) {w : Wr} (hw : w ∈ r) : w ∈ X := by
 have h1 : w ∈ r.filter (isAt w.f0 w.f1) := List.mem_filter.2 ⟨hw, isAt_iff.2 ⟨rfl, rfl⟩⟩
 rw [h.2, Option.mem_toList] at h1
 exact (List.mem_filter.1 (List.mem_of_getLast? h1)).1
theorem IsFold.last {X r : List Wr} (h : IsFold X r) (p q : Int) : (r.filter (isAt p q)).getLast? = (X.filter (isAt p q)).getLast? := by
 rw [h.2]
 cases (X.filter (isAt p q)).getLast? <;> rfl
theorem IsFold.ok {X r : List Wr} {vs : List Vo} (h : IsFold X r) (ho : okWs vs X) : okWs vs r := fun w hw => ho w (h.mem hw)
theorem app_fold {X r : List Wr} {vs : List Vo} (h : IsFold X r) (ho : okWs vs X) (hv : right vs = true) : app vs r = app vs X := by
 refine right_ext ((shape_app _ _).trans (shape_app _ _).symm) (right_app (h.ok ho) hv) (right_app ho hv) (fun p q => ?_)
 rw [blk_app p q r vs (h.ok ho), blk_app p q X vs ho, h.last p q]
theorem fold_go (Y : List Wr) (hl : Y.length ≤ 400000) (n : Int) (hn : n = (Y.length : Int)) : ∀ (m i : Nat) (K : List Wr), Y.length - i ≤ m → i ≤ Y.length → K.length + (Y.length - i) ≤ 800000 → Runs (fun k => fold_Fold.l0 k Y K Y n (i : Int)) (fun r => r = K ++ lasts (Y.drop i)) := by
 intro m
 induction m with
 | zero =>
  intro i K h1 h2 h3
  refine Runs.now K z149_ 1 (fun k hk => ?_)
  obtain ⟨k, rfl⟩ : ∃ q, k = q + 1 := ⟨k - 1, z7_⟩
  rw [fold_Fold.l0, if_neg z7_]
 | succ m ih =>
  intro i K h1 h2 h3
  by_cases c : i < Y.length
  ·have hw : wrap64 ((i : Int) + 1) = ((i + 1 : Nat) : Int) := by rw [wr z7_ z7_]; omega
   have e1 : rd_T120 Y (i : Int) = Y[i] := by
    unfold rd_T120
    rw [Int.toNat_natCast, List.getD_eq_getElem?_getD, List.getElem?_eq_getElem c]
    rfl
   by_cases c2 : i + 1 < Y.length
   ·have e2 : rd_T120 Y ((i + 1 : Nat) : Int) = Y[i + 1] := by
     unfold rd_T120
     rw [Int.toNat_natCast, List.getD_eq_getElem?_getD, List.getElem?_eq_getElem c2]
     rfl
    have hd : Y.drop i = Y[i] :: Y[i + 1] :: Y.drop (i + 1 + 1) := by rw [List.drop_eq_getElem_cons c, List.drop_eq_getElem_cons c2]
    have hd2 : Y.drop (i + 1) = Y[i + 1] :: Y.drop (i + 1 + 1) := List.drop_eq_getElem_cons c2
    by_cases c3 : lt Y[i] Y[i + 1] = true ∨ lt Y[i + 1] Y[i] = true
    ·have hg := (ih (i + 1) (K ++ [Y[i]]) z7_ z7_ z150_).post (Q := fun r => r = K ++ lasts (Y.drop i)) (fun r hr => by rw [hr, hd, lasts, if_pos c3, hd2, List.append_assoc]; rfl)
     refine Runs.step hg 5 (fun k hk => ?_)
     rw [fold_Fold.l0, if_pos z7_, if_pos z7_, if_pos z7_, hw, if_pos z7_, if_pos z7_, e1, e2, order_eq _ _ hk]
     simp only [Option.bind_some]
     rw [if_neg (by rcases c3 with h | h; rw [if_pos h]; omega; rw [if_neg (by rw [lt_nlt h]; decide), if_pos h]; omega), if_pos z7_]
    ·have hg := (ih (i + 1) K z7_ z7_ z7_).post (Q := fun r => r = K ++ lasts (Y.drop i)) (fun r hr => by rw [hr, hd, lasts, if_neg c3, hd2])
     refine Runs.step hg 5 (fun k hk => ?_)
     rw [fold_Fold.l0, if_pos z7_, if_pos z7_, if_pos z7_, hw, if_pos z7_, if_pos z7_, e1, e2, order_eq _ _ hk]
     simp only [Option.bind_some]
     rw [if_pos (by rw [if_neg (fun h => c3 (.inl h)), if_neg (fun h => c3 (.inr h))])]
   ·have hd : Y.drop i = [Y[i]] := by rw [List.drop_eq_getElem_cons c, List.drop_of_length_le z7_]
    have hg := (ih (i + 1) (K ++ [Y[i]]) z7_ z7_ z150_).post (Q := fun r => r = K ++ lasts (Y.drop i)) (fun r hr => by rw [hr, hd, List.drop_of_length_le z7_, lasts, lasts, List.append_nil])
    refine Runs.step hg 0 (fun k hk => ?_)
    rw [fold_Fold.l0, if_pos z7_, if_pos z7_, if_pos z7_, hw, if_neg z7_, if_pos z7_, e1]
  ·refine Runs.now K z149_ 1 (fun k hk => ?_)
   obtain ⟨k, rfl⟩ : ∃ q, k = q + 1 := ⟨k - 1, z7_⟩
   rw [fold_Fold.l0, if_neg z7_]
theorem fold_run (X : List Wr) (hl : X.length ≤ 400000) : Runs (fun k => fold_Fold.f k X) (fun r => IsFold X r ∧ bytesW r ≤ bytesW X ∧ r.length ≤ X.length) := by
 have h := Runs.bind (G := fun k t => fold_Fold.l0 k t ([] : List Wr) t (X.length : Int) 0) (Q := fun r => IsFold X r ∧ bytesW r ≤ bytesW X ∧ r.length ≤ X.length) (sort_run X 93 hl) (fun Y hY => by
  have hy := hY.2.length.length_eq
  refine (fold_go Y z7_ (X.length : Int) z7_ Y.length 0 [] z7_ z7_ z142_).post (fun r hr => ?_)
  rw [List.nil_append, List.drop_zero] at hr
  rw [hr]
  refine ⟨IsFold.stb hY.2 (lasts_fold hY.1), ?_, ?_⟩
  ·rw [← bytesW_perm hY.2.length]; exact lasts_bytes Y
  ·rw [← hy]; exact lasts_length Y)
 refine h.same 0 (fun k _ => ?_)
 unfold fold_Fold.f api_Write_89.f
 rw [if_pos z7_]
 rfl
theorem merge_run (a b : List Wr) (hl : a.length + b.length ≤ 400000) : Runs (fun k => fold_Merge.f k a b) (fun r => IsFold (a ++ b) r ∧ bytesW r ≤ bytesW a + bytesW b ∧ r.length ≤ a.length + b.length) := by
 have h := (fold_run (a ++ b) (by rw [List.length_append]; exact hl)).post (Q := fun r => IsFold (a ++ b) r ∧ bytesW r ≤ bytesW a + bytesW b ∧ r.length ≤ a.length + b.length) (fun r hr => ⟨hr.1, by rw [← bytesW_append]; exact hr.2.1, by rw [← List.length_append]; exact hr.2.2⟩)
 refine h.same 0 (fun k _ => ?_)
 unfold fold_Merge.f api_Write_90.f
 rw [if_pos (by simpa using hl)]
 simp only [Option.bind_some, List.flatten_cons, List.flatten_nil, List.append_nil]
 cases fold_Fold.f k (a ++ b) <;> rfl
theorem folded_go (X : List Wr) (hs : SSrt X) (hl : X.length ≤ 400000) (n : Int) (hn : n = (X.length : Int)) : ∀ (m i : Nat), X.length - i ≤ m → i ≤ X.length → Runs (fun k => fold_Folded.l0 k X n (i : Int)) (fun r => r = true) := by
 intro m
 induction m with
 | zero =>
  intro i h1 h2
  refine Runs.now true rfl 1 (fun k hk => ?_)
  obtain ⟨k, rfl⟩ : ∃ q, k = q + 1 := ⟨k - 1, z7_⟩
  rw [fold_Folded.l0, if_neg z7_]
 | succ m ih =>
  intro i h1 h2
  by_cases c : i < X.length
  ·have hw : wrap64 ((i : Int) + 1) = ((i + 1 : Nat) : Int) := by rw [wr z7_ z7_]; omega
   have hg := ih (i + 1) z7_ z7_
   by_cases c2 : 0 < i
   ·have hw2 : wrap64 ((i : Int) - 1) = ((i - 1 : Nat) : Int) := by rw [wr z7_ z7_]; omega
    have e1 : rd_T120 X (i : Int) = X[i] := by
     unfold rd_T120
     rw [Int.toNat_natCast, List.getD_eq_getElem?_getD, List.getElem?_eq_getElem c]
     rfl
    have e2 : rd_T120 X ((i - 1 : Nat) : Int) = X[i - 1] := by
     unfold rd_T120
     rw [Int.toNat_natCast, List.getD_eq_getElem?_getD, List.getElem?_eq_getElem z7_]
     rfl
    have h3 : lt X[i - 1] X[i] = true := List.pairwise_iff_getElem.1 hs (i - 1) i z7_ c z7_
    refine Runs.step hg 5 (fun k hk => ?_)
    rw [fold_Folded.l0, if_pos z7_, if_pos z7_, hw2, if_pos z7_, if_pos z7_, if_pos z7_, if_pos z7_, e1, e2, order_eq _ _ hk]
    simp only [Option.bind_some]
    rw [if_pos h3, if_neg z7_, hw]
   ·refine Runs.step hg 0 (fun k hk => ?_)
    rw [fold_Folded.l0, if_pos z7_, if_neg z7_, hw]
  ·refine Runs.now true rfl 1 (fun k hk => ?_)
   obtain ⟨k, rfl⟩ : ∃ q, k = q + 1 := ⟨k - 1, z7_⟩
   rw [fold_Folded.l0, if_neg z7_]
theorem folded_run (X : List Wr) (hs : SSrt X) (hl : X.length ≤ 400000) : Runs (fun k => fold_Folded.f k X) (fun r => r = true) := folded_go X hs hl _ rfl X.length 0 z7_ z7_
end Go.Proofs.Ytecfndblgefhdaa.Law
