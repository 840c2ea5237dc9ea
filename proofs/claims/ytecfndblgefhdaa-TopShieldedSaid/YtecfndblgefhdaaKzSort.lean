import Derived.Test.YtecfndblgefhdaaKzRx10
set_option linter.unusedVariables false
set_option linter.unusedSimpArgs false
namespace Go.Proofs.Ytecfndblgefhdaa.Sort
open Go.RowKit Go.Proofs.Ytecfndblgefhdaa.R Go.Proofs.YtecfndblgefhdaaW.PrintWords Go.Proofs.YtecfndblgefhdaaW.PrintLast Go.Proofs.YtecfndblgefhdaaW.PrintMore
abbrev Wr := S120
theorem wr {n : Int} (h0 : -10000000 ≤ n) (h1 : n ≤ 10000000) : wrap64 n = n := by unfold wrap64; omega
def Runs {α : Type} (F : Nat → Option α) (Post : α → Prop) : Prop := ∃ r, Post r ∧ ∃ k0, ∀ k, k0 ≤ k → F k = some r
theorem Runs.step {α : Type} {F G : Nat → Option α} {Post : α → Prop} (h : Runs F Post) (k1 : Nat) (hg : ∀ k, k1 ≤ k → G (k + 1) = F k) : Runs G Post := by
 obtain ⟨r, hp, k0, h⟩ := h
 refine ⟨r, hp, max k0 k1 + 1, fun k hk => ?_⟩
 obtain ⟨m, rfl⟩ : ∃ m, k = m + 1 := ⟨k - 1, z7_⟩
 rw [hg m z7_]
 exact h m z7_
theorem Runs.now {α : Type} {G : Nat → Option α} {Post : α → Prop} (r : α) (hp : Post r) (k1 : Nat) (hg : ∀ k, k1 ≤ k → G k = some r) : Runs G Post := ⟨r, hp, k1, hg⟩
theorem Runs.same {α : Type} {F G : Nat → Option α} {Post : α → Prop} (h : Runs F Post) (k1 : Nat) (hg : ∀ k, k1 ≤ k → G k = F k) : Runs G Post := by
 obtain ⟨r, hp, k0, h⟩ := h
 exact ⟨r, hp, max k0 k1, fun k hk => (hg k z7_).trans (h k z7_)⟩
theorem Runs.post {α : Type} {F : Nat → Option α} {P Q : α → Prop} (h : Runs F P) (hpq : ∀ r, P r → Q r) : Runs F Q := by
 obtain ⟨r, hp, h⟩ := h
 exact ⟨r, hpq r hp, h⟩
theorem Runs.bind {α β : Type} {F : Nat → Option α} {P : α → Prop} {G : Nat → α → Option β} {Q : β → Prop} (h : Runs F P) (hg : ∀ r, P r → Runs (fun k => G k r) Q) : Runs (fun k => (F k).bind (G k)) Q := by
 obtain ⟨r, hp, k0, h⟩ := h
 obtain ⟨q, hq, k1, h1⟩ := hg r hp
 refine ⟨q, hq, max k0 k1, fun k hk => ?_⟩
 show (F k).bind (G k) = some q
 rw [h k z7_, Option.bind_some]
 exact h1 k z7_
def lt (a b : Wr) : Bool := decide (a.f0 < b.f0 ∨ (a.f0 = b.f0 ∧ a.f1 < b.f1))
theorem lt_iff {a b : Wr} : lt a b = true ↔ (a.f0 < b.f0 ∨ (a.f0 = b.f0 ∧ a.f1 < b.f1)) := by unfold lt; simp
theorem nlt_iff {a b : Wr} : lt a b = false ↔ ¬ (a.f0 < b.f0 ∨ (a.f0 = b.f0 ∧ a.f1 < b.f1)) := by unfold lt; simp
theorem nlt_trans {a b c : Wr} (h1 : lt b a = false) (h2 : lt c b = false) : lt c a = false := by rw [nlt_iff] at *; omega
theorem lt_nlt {a b : Wr} (h : lt a b = true) : lt b a = false := by rw [nlt_iff]; rw [lt_iff] at h; omega
theorem lt_of_lt_le {a b c : Wr} (h1 : lt a b = true) (h2 : lt c b = false) : lt a c = true := by rw [nlt_iff] at h2; rw [lt_iff] at *; omega
theorem lt_of_le_lt {a b c : Wr} (h1 : lt b a = false) (h2 : lt b c = true) : lt a c = true := by rw [nlt_iff] at h1; rw [lt_iff] at *; omega
theorem compare_eq (a b : Int) : cmp_Compare_int.f a b = some (if a < b then -1 else if b < a then 1 else 0) := by
 unfold cmp_Compare_int.f cmp_isNaN_int.f
 simp
 by_cases h1 : a < b
 ·rw [if_pos h1, if_pos h1]
 ·rw [if_neg h1, if_neg h1]
  split <;> rfl
theorem or_eq (x y : Int) {k : Nat} (hk : 5 ≤ k) : cmp_Or_int.f k [x, y] = some (if x = 0 then y else x) := by
 obtain ⟨k, rfl⟩ : ∃ m, k = m + 3 := ⟨k - 3, z7_⟩
 unfold cmp_Or_int.f
 have e0 : rd [x, y] 0 = x := rfl
 have e1 : rd [x, y] 1 = y := rfl
 rw [cmp_Or_int.l0, if_pos (by simp), if_pos z8_, if_pos (by simp), e0]
 by_cases h : x = 0
 ·rw [if_pos h, if_pos h, show wrap64 (0 + 1) = 1 from wr z8_ z8_, cmp_Or_int.l0, if_pos (by simp), if_pos z8_, if_pos (by simp), e1]
  by_cases h2 : y = 0
  ·rw [if_pos h2, show wrap64 (1 + 1) = 2 from wr z8_ z8_, cmp_Or_int.l0, if_neg (by simp), h2]
  ·rw [if_neg h2]
 ·rw [if_neg h, if_neg h]
theorem order_eq (a b : Wr) {k : Nat} (hk : 5 ≤ k) : fold_order.f k a.f0 a.f1 a.f2 b.f0 b.f1 b.f2 = some (if lt a b = true then -1 else if lt b a = true then 1 else 0) := by
 unfold fold_order.f
 rw [compare_eq, compare_eq]
 simp only [Option.bind_some]
 rw [or_eq _ _ hk]
 simp only [Option.bind_some]
 congr 1
 simp only [lt_iff]
 split <;> split <;> split <;> (try split) <;> (try split) <;> (first | rfl | omega | skip)
 all_goals (first | rfl | omega | (split <;> (first | rfl | omega)))
theorem order_neg (a b : Wr) : ((if lt a b = true then (-1 : Int) else if lt b a = true then 1 else 0) < 0) ↔ lt a b = true := by
 by_cases h : lt a b = true
 ·rw [if_pos h]; simp [h]
 ·rw [if_neg h]
  constructor
  ·intro h2; split at h2 <;> omega
  ·intro h2; exact absurd h2 h
def Srt (X : List Wr) : Prop := X.Pairwise fun a b => lt b a = false
def isAt (p q : Int) (w : Wr) : Bool := decide (w.f0 = p ∧ w.f1 = q)
def Stb (X Y : List Wr) : Prop := ∀ p q, Y.filter (isAt p q) = X.filter (isAt p q)
theorem Stb.refl (X : List Wr) : Stb X X := fun _ _ => rfl
theorem Stb.trans {X Y Z : List Wr} (h : Stb X Y) (h2 : Stb Y Z) : Stb X Z := fun p q => (h2 p q).trans (h p q)
theorem Stb.app {X Y X' Y' : List Wr} (h : Stb X Y) (h2 : Stb X' Y') : Stb (X ++ X') (Y ++ Y') := fun p q => by rw [List.filter_append, List.filter_append, h p q, h2 p q]
theorem Stb.mem {X Y : List Wr} (h : Stb X Y) (w : Wr) : w ∈ Y ↔ w ∈ X := by
 have h1 : ∀ Z : List Wr, w ∈ Z ↔ w ∈ Z.filter (isAt w.f0 w.f1) := fun Z => by rw [List.mem_filter]; simp [isAt]
 rw [h1 Y, h1 X, h w.f0 w.f1]
theorem filter_none {p q : Int} {X : List Wr} (h : ∀ x ∈ X, ¬ (x.f0 = p ∧ x.f1 = q)) : X.filter (isAt p q) = [] := List.filter_eq_nil_iff.2 (fun x hx => by unfold isAt; simpa using h x hx)
theorem Stb.move {U V : List Wr} (h : ∀ u ∈ U, ∀ v ∈ V, lt v u = true) : Stb (U ++ V) (V ++ U) := fun p q => by
 rw [List.filter_append, List.filter_append]
 by_cases hu : ∃ u ∈ U, u.f0 = p ∧ u.f1 = q
 ·obtain ⟨u, hu, h1, h2⟩ := hu
  rw [filter_none (X := V) (fun v hv hx => by have := lt_iff.1 (h u hu v hv); omega)]
  simp
 ·rw [filter_none (X := U) (fun x hx hy => hu ⟨x, hx, hy⟩)]
  simp
theorem Stb.length {X Y : List Wr} (h : Stb X Y) : Y.Perm X := by
 classical
 refine List.perm_iff_count.2 (fun w => ?_)
 have h1 : ∀ Z : List Wr, Z.count w = (Z.filter (isAt w.f0 w.f1)).count w := fun Z => by
  rw [List.count_filter]
  simp [isAt]
 rw [h1 Y, h1 X, h w.f0 w.f1]
theorem rd_mid (P Q : List Wr) (u : Wr) {i : Int} (h : i = (P.length : Int)) : rd_T120 (P ++ u :: Q) i = u := by
 unfold rd_T120
 rw [h, Int.toNat_natCast, List.getD_eq_getElem?_getD, List.getElem?_append_right (Nat.le_refl _)]
 simp
theorem set_mid (P Q : List Wr) (u v : Wr) {i : Nat} (h : i = P.length) : (P ++ u :: Q).set i v = P ++ v :: Q := by
 rw [h, List.set_append_right _ _ (Nat.le_refl _), Nat.sub_self, List.set_cons_zero]
theorem swap_next (P Q : List Wr) (u v : Wr) {i j : Int} (hi : i = (P.length : Int) + 1) (hj : j = (P.length : Int)) :
  ((P ++ u :: v :: Q).set i.toNat (rd_T120 (P ++ u :: v :: Q) j)).set j.toNat (rd_T120 (P ++ u :: v :: Q) i) = P ++ v :: u :: Q := by
 have e1 : P ++ u :: v :: Q = (P ++ [u]) ++ v :: Q := by simp
 rw [rd_mid P (v :: Q) u hj]
 have r2 : rd_T120 (P ++ u :: v :: Q) i = v := by rw [e1]; exact rd_mid _ _ _ (by simp; omega)
 rw [r2, e1, set_mid (P ++ [u]) Q v u (by simp; omega), show (P ++ [u]) ++ u :: Q = P ++ u :: u :: Q by simp, set_mid P (u :: Q) u v z7_]
theorem swap_next' (P Q : List Wr) (u v : Wr) {i j : Int} (hi : i = (P.length : Int)) (hj : j = (P.length : Int) + 1) :
  ((P ++ u :: v :: Q).set i.toNat (rd_T120 (P ++ u :: v :: Q) j)).set j.toNat (rd_T120 (P ++ u :: v :: Q) i) = P ++ v :: u :: Q := by
 have e1 : P ++ u :: v :: Q = (P ++ [u]) ++ v :: Q := by simp
 have r2 : rd_T120 (P ++ u :: v :: Q) j = v := by rw [e1]; exact rd_mid _ _ _ (by simp; omega)
 rw [rd_mid P (v :: Q) u hi, r2, set_mid P (v :: Q) u v z7_, show P ++ v :: v :: Q = (P ++ [v]) ++ v :: Q by simp, set_mid (P ++ [v]) Q v u (by simp; omega)]
 simp
theorem eta (w : Wr) : (⟨w.f0, w.f1, w.f2⟩ : Wr) = w := rfl
theorem ins_in (A C : List Wr) (e : Wr) (b x8 : Int) (Post : List Wr → Prop) (hlen : A.length + C.length ≤ 1000000) : ∀ (n : Nat) (S1 S2 : List Wr), S1.length = n → n + S2.length ≤ 1000000 → Srt S1 → (∀ y ∈ S2, lt e y = true) →
  (∀ T1 T2, S1 = T1 ++ T2 → (∀ y ∈ T2, lt e y = true) → (∀ y ∈ T1, lt e y = false) → Runs (fun k => api_Write_115.l0 k (A ++ (T1 ++ e :: (T2 ++ S2)) ++ C) (A.length : Int) b (wrap64 (x8 + 1))) Post) →
  Runs (fun k => api_Write_115.l1 k (A ++ (S1 ++ e :: S2) ++ C) (A.length : Int) b x8 ((A.length + n : Nat) : Int)) Post := by
 intro n
 induction n with
 | zero =>
  intro S1 S2 h1 h2 hs h3 H
  obtain rfl := List.eq_nil_of_length_eq_zero h1
  refine Runs.step (H [] [] rfl (fun y hy => by cases hy) (fun y hy => by cases hy)) 0 (fun k _ => ?_)
  rw [api_Write_115.l1, if_neg (by simp)]
  simp
 | succ n ih =>
  intro S1 S2 h1 h2 hs h3 H
  obtain ⟨S, y, rfl⟩ : ∃ S y, S1 = S ++ [y] := ⟨S1.dropLast, S1.getLast (by intro h; rw [h] at h1; cases h1), (List.dropLast_concat_getLast _).symm⟩
  have hS : S.length = n := by simpa using h1
  have hx : A ++ (S ++ [y] ++ e :: S2) ++ C = (A ++ S) ++ y :: e :: (S2 ++ C) := by simp
  have hlt : ((A.length + (n + 1) : Nat) : Int) < ((A ++ (S ++ [y] ++ e :: S2) ++ C).length : Int) := by simp only [List.length_append, List.length_cons, List.length_nil]; omega
  have hw : wrap64 (((A.length + (n + 1) : Nat) : Int) - 1) = ((A.length + n : Nat) : Int) := by rw [wr z7_ z7_]; omega
  have r1 : rd_T120 (A ++ (S ++ [y] ++ e :: S2) ++ C) ((A.length + (n + 1) : Nat) : Int) = e := by
   rw [hx, show (A ++ S) ++ y :: e :: (S2 ++ C) = (A ++ S ++ [y]) ++ e :: (S2 ++ C) by simp]
   exact rd_mid _ _ _ z139_
  have r2 : rd_T120 (A ++ (S ++ [y] ++ e :: S2) ++ C) ((A.length + n : Nat) : Int) = y := by
   rw [hx]
   exact rd_mid _ _ _ z140_
  by_cases hey : lt e y = true
  ·have hs2 : Srt S := (List.pairwise_append.1 hs).1
   have hgo := ih S (y :: S2) hS z29_ hs2 (fun z hz => by
    rcases List.mem_cons.1 hz with rfl | hz
    ·exact hey
    ·exact h3 z hz) (fun T1 T2 g1 g2 g3 => by
    have := H T1 (T2 ++ [y]) (by rw [g1]; simp) (fun z hz => by
     rcases List.mem_append.1 hz with hz | hz
     ·exact g2 z hz
     ·rw [List.mem_singleton.1 hz]; exact hey) g3
    simpa using this)
   refine Runs.step hgo 5 (fun k hk => ?_)
   rw [api_Write_115.l1, if_pos z7_, if_pos z7_, if_pos hlt, hw, if_pos z7_, if_pos z7_, r1, r2, order_eq _ _ hk]
   simp only [Option.bind_some]
   rw [if_pos ((order_neg e y).2 hey), eta, eta]
   have hsw := swap_next (A ++ S) (S2 ++ C) y e (i := ((A.length + (n + 1) : Nat) : Int)) (j := ((A.length + n : Nat) : Int)) z140_ z140_
   rw [← hx, r1, r2] at hsw
   rw [hsw]
   simp
  ·have hey2 : lt e y = false := by simpa using hey
   have hall : ∀ z ∈ S ++ [y], lt e z = false := fun z hz => by
    rcases List.mem_append.1 hz with hz | hz
    ·exact nlt_trans ((List.pairwise_append.1 hs).2.2 z hz y List.mem_cons_self) hey2
    ·rw [List.mem_singleton.1 hz]; exact hey2
   refine Runs.step (H (S ++ [y]) [] (by simp) (fun z hz => by cases hz) hall) 5 (fun k hk => ?_)
   rw [api_Write_115.l1, if_pos z7_, if_pos z7_, if_pos hlt, hw, if_pos z7_, if_pos z7_, r1, r2, order_eq _ _ hk]
   simp only [Option.bind_some]
   rw [if_neg (fun h => hey ((order_neg e y).1 h))]
   simp
theorem ins_out (A C : List Wr) : ∀ (Q S : List Wr), A.length + C.length + Q.length + S.length ≤ 1000000 → Srt S →
  Runs (fun k => api_Write_115.l0 k (A ++ (S ++ Q) ++ C) (A.length : Int) ((A.length + (S.length + Q.length) : Nat) : Int) ((A.length + S.length : Nat) : Int)) (fun r => ∃ Y, r = A ++ Y ++ C ∧ Srt Y ∧ Stb (S ++ Q) Y) := by
 intro Q
 induction Q with
 | nil =>
  intro S h hs
  refine Runs.now (A ++ S ++ C) ⟨S, rfl, hs, by rw [List.append_nil]; exact Stb.refl S⟩ 1 (fun k hk => ?_)
  obtain ⟨k, rfl⟩ : ∃ m, k = m + 1 := ⟨k - 1, z7_⟩
  rw [api_Write_115.l0, if_neg (by simp)]
  simp
 | cons e Q ih =>
  intro S h hs
  simp only [List.length_cons] at h
  have hgo := ins_in A (Q ++ C) e ((A.length + (S.length + (e :: Q).length) : Nat) : Int) ((A.length + S.length : Nat) : Int) (fun r => ∃ Y, r = A ++ Y ++ C ∧ Srt Y ∧ Stb (S ++ e :: Q) Y) z141_ S.length S [] rfl z142_ hs (fun y hy => by cases hy) (fun T1 T2 g1 g2 g3 => by
   have hs1 : Srt (T1 ++ e :: T2) := by
    rw [g1] at hs
    obtain ⟨p1, p2, p3⟩ := List.pairwise_append.1 hs
    refine List.pairwise_append.2 ⟨p1, List.pairwise_cons.2 ⟨fun y hy => lt_nlt (g2 y hy), p2⟩, fun x hx y hy => ?_⟩
    rcases List.mem_cons.1 hy with rfl | hy
    ·exact g3 x hx
    ·exact p3 x hx y hy
   have hst : Stb (S ++ [e]) (T1 ++ e :: T2) := by
    rw [g1, List.append_assoc]
    exact Stb.app (Stb.refl T1) (Stb.move (U := T2) (V := [e]) (fun u hu v hv => by rw [List.mem_singleton.1 hv]; exact g2 u hu))
   have hl : (T1 ++ e :: T2).length = S.length + 1 := by rw [g1]; simp only [List.length_append, List.length_cons]; omega
   have := ih (T1 ++ e :: T2) (by rw [hl]; omega) hs1
   rw [hl] at this
   have hw : wrap64 (((A.length + S.length : Nat) : Int) + 1) = ((A.length + (S.length + 1) : Nat) : Int) := by rw [wr z7_ z7_]; omega
   have e1 : A ++ (T1 ++ e :: (T2 ++ [])) ++ (Q ++ C) = A ++ (T1 ++ e :: T2 ++ Q) ++ C := by simp
   have e2 : ((A.length + (S.length + (e :: Q).length) : Nat) : Int) = ((A.length + (S.length + 1 + Q.length) : Nat) : Int) := by simp only [List.length_cons]; omega
   rw [hw, e1, e2]
   refine this.post (fun r hr => ?_)
   obtain ⟨Y, y1, y2, y3⟩ := hr
   refine ⟨Y, y1, y2, Stb.trans ?_ y3⟩
   have := Stb.app hst (Stb.refl Q)
   simpa using this)
  refine Runs.step hgo 0 (fun k _ => ?_)
  rw [api_Write_115.l0, if_pos z29_]
  simp
theorem ins_sort (A X C : List Wr) (c : Nat) (h : A.length + X.length + C.length ≤ 1000000) :
  Runs (fun k => api_Write_115.f k (A ++ X ++ C) (A.length : Int) ((A.length + X.length : Nat) : Int) c) (fun r => ∃ Y, r = A ++ Y ++ C ∧ Srt Y ∧ Stb X Y) := by
 unfold api_Write_115.f
 have hw : wrap64 ((A.length : Int) + 1) = ((A.length + 1 : Nat) : Int) := by rw [wr z7_ z7_]; omega
 rw [hw]
 cases X with
 | nil =>
  refine Runs.now (A ++ [] ++ C) ⟨[], rfl, List.Pairwise.nil, Stb.refl []⟩ 1 (fun k hk => ?_)
  obtain ⟨k, rfl⟩ : ∃ m, k = m + 1 := ⟨k - 1, z7_⟩
  rw [api_Write_115.l0, if_neg z142_]
 | cons e Q =>
  simp only [List.length_cons] at h
  have := ins_out A C Q [e] (by simp only [List.length_cons, List.length_nil]; omega) (List.pairwise_singleton _ _)
  refine (this.same 0 (fun k _ => ?_))
  have e2 : ((A.length + (e :: Q).length : Nat) : Int) = ((A.length + ([e].length + Q.length) : Nat) : Int) := by simp only [List.length_cons, List.length_nil]; omega
  rw [e2]
  simp
end Go.Proofs.Ytecfndblgefhdaa.Sort
