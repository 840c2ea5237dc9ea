import Derived.Test.YtecfndblgefhdaaKzSortB
set_option linter.unusedVariables false
set_option linter.unusedSimpArgs false
namespace Go.Proofs.Ytecfndblgefhdaa.Sort
open Go.RowKit Go.Proofs.Ytecfndblgefhdaa.R Go.Proofs.YtecfndblgefhdaaW.PrintWords Go.Proofs.YtecfndblgefhdaaW.PrintLast Go.Proofs.YtecfndblgefhdaaW.PrintMore
def Hid (p : Prop) : Prop := p
theorem Hid.out {p : Prop} (h : Hid p) : p := h
theorem mid_at {o i j : Nat} (hij : i < j) (h : o + i + (o + j) ≤ 8000000) {x y : Int} (hx : x = ((o + i : Nat) : Int)) (hy : y = ((o + j : Nat) : Int)) : ∃ m, i ≤ m ∧ m < j ∧ Hid (wrap64 ((IntKind.u64.wrap (wrap64 (x + y))) / 2) = ((o + m : Nat) : Int)) := by
 refine ⟨(i + j) / 2, z7_, z7_, ?_⟩
 have e : (o + i + (o + j)) / 2 = o + (i + j) / 2 := by omega
 rw [← e]
 exact mid_eq h hx hy
theorem bub_right (u : Wr) (Q : List Wr) : ∀ (V P : List Wr) (s e : Int), P.length + V.length + Q.length ≤ 500000 → s = (P.length : Int) → e = ((P.length + 1 + V.length : Nat) : Int) →
  Runs (fun k => api_Write_116.l1 k (P ++ u :: (V ++ Q)) e s) (fun r => r = P ++ (V ++ u :: Q)) := by
 intro V
 induction V with
 | nil =>
  intro P s e hl hs he
  refine Runs.now _ rfl 1 (fun k hk => ?_)
  obtain ⟨k, rfl⟩ : ∃ m, k = m + 1 := ⟨k - 1, z7_⟩
  simp only [List.length_nil] at he hl
  have hw : Hid (wrap64 (e - 1) = s) := by show wrap64 (e - 1) = s; rw [wr z7_ z7_]; omega
  rw [api_Write_116.l1, hw.out, if_neg z7_]
  rfl
 | cons v V ih =>
  intro P s e hl hs he
  simp only [List.length_cons] at hl he
  have hgo := ih (P ++ [v]) (s + 1) e z139_ z139_ z139_
  have hlen : ((P ++ u :: v :: (V ++ Q)).length : Int) = (P.length : Int) + 2 + (V.length : Int) + (Q.length : Int) := by simp only [List.length_append, List.length_cons]; omega
  have hsw := swap_next' P (V ++ Q) u v (i := s) (j := s + 1) hs z7_
  have b0 : s < e - 1 := by omega
  have b1 : 0 ≤ s + 1 := by omega
  have b2 : s + 1 < ((P ++ u :: v :: (V ++ Q)).length : Int) := by omega
  have b3 : 0 ≤ s := by omega
  have b4 : s < ((P ++ u :: v :: (V ++ Q)).length : Int) := by omega
  have hw : Hid (wrap64 (e - 1) = e - 1) := wr z7_ z7_
  have hw1 : Hid (wrap64 (s + 1) = s + 1) := by exact wr z7_ z7_
  refine Runs.step (hgo.post (fun r hr => z144_)) 0 (fun k _ => ?_)
  rw [List.cons_append, api_Write_116.l1, hw.out, if_pos b0, hw1.out, if_pos b1, if_pos b2, if_pos b3, if_pos b4, eta, eta, hsw]
  simp
theorem bub_left (v : Wr) (P : List Wr) : ∀ (n : Nat) (V Q : List Wr) (x e : Int), V.length = n → P.length + V.length + Q.length ≤ 500000 → e = (P.length : Int) → x = ((P.length + n : Nat) : Int) →
  Runs (fun k => api_Write_116.l3 k (P ++ (V ++ v :: Q)) e x) (fun r => r = P ++ v :: (V ++ Q)) := by
 intro n
 induction n with
 | zero =>
  intro V Q x e hn hl he hx
  obtain rfl := List.eq_nil_of_length_eq_zero hn
  refine Runs.now _ rfl 1 (fun k hk => ?_)
  obtain ⟨k, rfl⟩ : ∃ m, k = m + 1 := ⟨k - 1, z7_⟩
  rw [api_Write_116.l3, if_neg z7_]
  rfl
 | succ n ih =>
  intro V0 Q x e hn hl he hx
  obtain ⟨V, y, rfl⟩ : ∃ S y, V0 = S ++ [y] := ⟨V0.dropLast, V0.getLast (by intro h; rw [h] at hn; cases hn), (List.dropLast_concat_getLast _).symm⟩
  simp only [List.length_append, List.length_cons, List.length_nil] at hn hl
  have hgo := ih V (y :: Q) (x - 1) e z7_ z29_ he z7_
  have hX : P ++ (V ++ [y] ++ v :: Q) = (P ++ V) ++ y :: v :: Q := by simp
  have hlen : (((P ++ V) ++ y :: v :: Q).length : Int) = (P.length : Int) + (V.length : Int) + 2 + (Q.length : Int) := by simp only [List.length_append, List.length_cons]; omega
  have hsw := swap_next (P ++ V) Q y v (i := x) (j := x - 1) z140_ z140_
  have b0 : x > e := by omega
  have b1 : 0 ≤ x - 1 := by omega
  have b2 : x - 1 < (((P ++ V) ++ y :: v :: Q).length : Int) := by omega
  have b3 : 0 ≤ x := by omega
  have b4 : x < (((P ++ V) ++ y :: v :: Q).length : Int) := by omega
  have hw1 : Hid (wrap64 (x - 1) = x - 1) := wr z7_ z7_
  refine Runs.step (hgo.post (fun r hr => z144_)) 0 (fun k _ => ?_)
  rw [hX, api_Write_116.l3, if_pos b0, hw1.out, if_pos b1, if_pos b2, if_pos b3, if_pos b4, eta, eta, hsw]
  simp
theorem l0_go (A V C : List Wr) (u : Wr) (hs : Srt V) (hl : A.length + V.length + C.length ≤ 400000) {a : Int} (ha : a = (A.length : Int)) : ∀ (n i j : Nat) (x y : Int), j - i ≤ n → i ≤ j → j ≤ V.length → (∀ t, t < i → lt (rd_T120 V (t : Int)) u = true) → (∀ t, j ≤ t → t < V.length → lt (rd_T120 V (t : Int)) u = false) → x = ((A.length + 1 + i : Nat) : Int) → y = ((A.length + 1 + j : Nat) : Int) →
  Runs (fun k => api_Write_116.l0 k (A ++ u :: (V ++ C)) a x y) (fun r => ∃ Y, r = A ++ Y ++ C ∧ Srt Y ∧ Stb (u :: V) Y) := by
 intro n
 induction n with
 | zero =>
  intro i j x y h1 h2 h3 h4 h5 hx hy
  obtain rfl : i = j := by omega
  have hgo := bub_right u (V.drop i ++ C) (V.take i) A a x z146_ ha (by rw [List.length_take, hx, Nat.min_eq_left h3])
  have hb : A ++ u :: (V.take i ++ (V.drop i ++ C)) = A ++ u :: (V ++ C) := by rw [← List.append_assoc (V.take i), List.take_append_drop]
  rw [hb] at hgo
  have hlo : ∀ z ∈ V.take i, lt z u = true := fun z hz => by
   obtain ⟨t, t1, t2, rfl⟩ := mem_take_rd hz
   exact h4 t t1
  have hhi : ∀ z ∈ V.drop i, lt z u = false := fun z hz => by
   obtain ⟨t, t1, t2, rfl⟩ := mem_drop_rd hz
   exact h5 t t1 t2
  refine Runs.step (hgo.post (fun r hr => ⟨V.take i ++ u :: V.drop i, ?_, ?_, ?_⟩)) 0 (fun k _ => ?_)
  ·rw [hr]; simp
  ·refine List.pairwise_append.2 ⟨hs.take i, List.pairwise_cons.2 ⟨hhi, hs.drop i⟩, fun z hz w hw => ?_⟩
   rcases List.mem_cons.1 hw with rfl | hw
   ·exact lt_nlt (hlo z hz)
   ·rw [← List.take_append_drop i V] at hs
    exact (List.pairwise_append.1 hs).2.2 z hz w hw
  ·have := Stb.app (Stb.move (U := [u]) (V := V.take i) (fun a ha v hv => by rw [List.mem_singleton.1 ha]; exact hlo v hv)) (Stb.refl (V.drop i))
   simpa using this
  ·rw [api_Write_116.l0, if_neg z7_]
 | succ n ih =>
  intro i j x y h1 h2 h3 h4 h5 hx hy
  rcases Nat.lt_or_ge i j with h | h
  ·obtain ⟨m, hm1, hm2, hm⟩ := mid_at (o := A.length + 1) h z7_ hx hy
   have hX : A ++ u :: (V ++ C) = (A ++ [u]) ++ V ++ C := by simp
   have hlen : ((A ++ u :: (V ++ C)).length : Int) = (A.length : Int) + 1 + (V.length : Int) + (C.length : Int) := by simp only [List.length_append, List.length_cons]; omega
   have r1 : rd_T120 (A ++ u :: (V ++ C)) ((A.length + 1 + m : Nat) : Int) = rd_T120 V (m : Int) := by
    rw [hX]
    exact rd_in (A ++ [u]) V C (t := m) z7_ (by simp only [List.length_append, List.length_cons, List.length_nil])
   have r2 : rd_T120 (A ++ u :: (V ++ C)) a = u := rd_mid A (V ++ C) u ha
   have b1 : (0 : Int) ≤ ((A.length + 1 + m : Nat) : Int) := Int.natCast_nonneg _
   have b2 : ((A.length + 1 + m : Nat) : Int) < ((A ++ u :: (V ++ C)).length : Int) := by rw [hlen]; omega
   have b3 : 0 ≤ a := by omega
   have b4 : a < ((A ++ u :: (V ++ C)).length : Int) := by rw [hlen]; omega
   have b0 : x < y := by omega
   have hw : Hid (wrap64 (((A.length + 1 + m : Nat) : Int) + 1) = ((A.length + 1 + (m + 1) : Nat) : Int)) := by show wrap64 (((A.length + 1 + m : Nat) : Int) + 1) = ((A.length + 1 + (m + 1) : Nat) : Int); rw [wr z7_ z7_]; omega
   by_cases c1 : lt (rd_T120 V (m : Int)) u = true
   ·have hgo := ih (m + 1) j _ y z7_ z7_ h3 (fun t ht => by
     rcases Nat.lt_or_ge t m with h9 | h9
     ·exact lt_of_le_lt (srt_at hs (Nat.le_of_lt h9) z7_) c1
     ·obtain rfl : t = m := by omega
      exact c1) h5 rfl hy
    refine Runs.step hgo 5 (fun k hk => ?_)
    rw [api_Write_116.l0, if_pos b0, hm.out, if_pos b1, if_pos b2, if_pos b3, if_pos b4, r1, r2, order_eq _ _ hk]
    simp only [Option.bind_some]
    rw [if_pos ((order_neg _ _).2 c1), hw.out]
   ·have hgo := ih i m x _ z7_ hm1 z7_ h4 (fun t ht ht2 => nlt_trans (by simpa using c1) (srt_at hs ht ht2)) hx rfl
    refine Runs.step hgo 5 (fun k hk => ?_)
    rw [api_Write_116.l0, if_pos b0, hm.out, if_pos b1, if_pos b2, if_pos b3, if_pos b4, r1, r2, order_eq _ _ hk]
    simp only [Option.bind_some]
    rw [if_neg (fun h => c1 ((order_neg _ _).1 h))]
  ·exact (ih i j x y z7_ h2 h3 h4 h5 hx hy)
theorem l2_go (A U C : List Wr) (v : Wr) (hs : Srt U) (hl : A.length + U.length + C.length ≤ 400000) {m2 : Int} (h2' : m2 = ((A.length + U.length : Nat) : Int)) : ∀ (n i j : Nat) (x y : Int), j - i ≤ n → i ≤ j → j ≤ U.length → (∀ t, t < i → lt v (rd_T120 U (t : Int)) = false) → (∀ t, j ≤ t → t < U.length → lt v (rd_T120 U (t : Int)) = true) → x = ((A.length + i : Nat) : Int) → y = ((A.length + j : Nat) : Int) →
  Runs (fun k => api_Write_116.l2 k (A ++ (U ++ v :: C)) m2 x y) (fun r => ∃ Y, r = A ++ Y ++ C ∧ Srt Y ∧ Stb (U ++ [v]) Y) := by
 intro n
 induction n with
 | zero =>
  intro i j x y h1 h2 h3 h4 h5 hx hy
  obtain rfl : i = j := by omega
  have hgo := bub_left v (A ++ U.take i) (U.length - i) (U.drop i) C m2 x (by rw [List.length_drop]) z146_ (by rw [List.length_append, List.length_take, hx, Nat.min_eq_left h3]) (by rw [List.length_append, List.length_take, h2', Nat.min_eq_left h3]; omega)
  have hb : A ++ U.take i ++ (U.drop i ++ v :: C) = A ++ (U ++ v :: C) := by rw [List.append_assoc, ← List.append_assoc (U.take i), List.take_append_drop]
  rw [hb] at hgo
  have hlo : ∀ z ∈ U.take i, lt v z = false := fun z hz => by
   obtain ⟨t, t1, t2, rfl⟩ := mem_take_rd hz
   exact h4 t t1
  have hhi : ∀ z ∈ U.drop i, lt v z = true := fun z hz => by
   obtain ⟨t, t1, t2, rfl⟩ := mem_drop_rd hz
   exact h5 t t1 t2
  refine Runs.step (hgo.post (fun r hr => ⟨U.take i ++ v :: U.drop i, ?_, ?_, ?_⟩)) 0 (fun k _ => ?_)
  ·rw [hr]; simp
  ·refine List.pairwise_append.2 ⟨hs.take i, List.pairwise_cons.2 ⟨fun z hz => lt_nlt (hhi z hz), hs.drop i⟩, fun z hz w hw => ?_⟩
   rcases List.mem_cons.1 hw with rfl | hw
   ·exact hlo z hz
   ·rw [← List.take_append_drop i U] at hs
    exact (List.pairwise_append.1 hs).2.2 z hz w hw
  ·have := Stb.app (Stb.refl (U.take i)) (Stb.move (U := U.drop i) (V := [v]) (fun a ha w hw => by rw [List.mem_singleton.1 hw]; exact hhi a ha))
   rw [← List.append_assoc, List.take_append_drop] at this
   simpa using this
  ·rw [api_Write_116.l2, if_neg z7_]
 | succ n ih =>
  intro i j x y h1 h2 h3 h4 h5 hx hy
  rcases Nat.lt_or_ge i j with h | h
  ·obtain ⟨m, hm1, hm2, hm⟩ := mid_at (o := A.length) h z7_ hx hy
   have hX : A ++ (U ++ v :: C) = A ++ U ++ v :: C := by simp
   have hlen : ((A ++ (U ++ v :: C)).length : Int) = (A.length : Int) + 1 + (U.length : Int) + (C.length : Int) := by simp only [List.length_append, List.length_cons]; omega
   have r1 : rd_T120 (A ++ (U ++ v :: C)) ((A.length + m : Nat) : Int) = rd_T120 U (m : Int) := by
    rw [hX]
    exact rd_in A U (v :: C) (t := m) z7_ rfl
   have r2 : rd_T120 (A ++ (U ++ v :: C)) m2 = v := by
    rw [hX]
    exact rd_mid (A ++ U) C v (by rw [h2', List.length_append])
   have b1 : (0 : Int) ≤ ((A.length + m : Nat) : Int) := Int.natCast_nonneg _
   have b2 : ((A.length + m : Nat) : Int) < ((A ++ (U ++ v :: C)).length : Int) := by rw [hlen]; omega
   have b3 : 0 ≤ m2 := by omega
   have b4 : m2 < ((A ++ (U ++ v :: C)).length : Int) := by rw [hlen]; omega
   have b0 : x < y := by omega
   have hw : Hid (wrap64 (((A.length + m : Nat) : Int) + 1) = ((A.length + (m + 1) : Nat) : Int)) := by show wrap64 (((A.length + m : Nat) : Int) + 1) = ((A.length + (m + 1) : Nat) : Int); rw [wr z7_ z7_]; omega
   by_cases c1 : lt v (rd_T120 U (m : Int)) = true
   ·have hgo := ih i m x _ z7_ hm1 z7_ h4 (fun t ht ht2 => lt_of_lt_le c1 (srt_at hs ht ht2)) hx rfl
    refine Runs.step hgo 5 (fun k hk => ?_)
    rw [api_Write_116.l2, if_pos b0, if_pos b3, if_pos b4, hm.out, if_pos b1, if_pos b2, r1, r2, order_eq _ _ hk]
    simp only [Option.bind_some]
    rw [if_pos ((order_neg _ _).2 c1)]
   ·have hgo := ih (m + 1) j _ y z7_ z7_ h3 (fun t ht => nlt_trans (srt_at hs (z7_ : t ≤ m) z7_) (by simpa using c1)) h5 rfl hy
    refine Runs.step hgo 5 (fun k hk => ?_)
    rw [api_Write_116.l2, if_pos b0, if_pos b3, if_pos b4, hm.out, if_pos b1, if_pos b2, r1, r2, order_eq _ _ hk]
    simp only [Option.bind_some]
    rw [if_neg (fun h => c1 ((order_neg _ _).1 h)), hw.out]
  ·exact (ih i j x y z7_ h2 h3 h4 h5 hx hy)
theorem srch (X : List Wr) (x1 x2 x3 x18 x19 : Int) (c p s0 r0 : Nat) (Post : List Wr → Prop) (hb : ∀ t, s0 ≤ t → t < r0 → t < X.length ∧ t ≤ p ∧ p - t < X.length) (hX : X.length ≤ 500000) (hr : r0 ≤ X.length)
  (H : ∀ s : Nat, s0 ≤ s → s ≤ r0 → (s0 < s → lt (rd_T120 X ((p - (s - 1) : Nat) : Int)) (rd_T120 X ((s - 1 : Nat) : Int)) = false) → (s < r0 → lt (rd_T120 X ((p - s : Nat) : Int)) (rd_T120 X (s : Int)) = true) →
   Runs (fun k => if (s : Int) < x2 then api_Write_116.j6 k X x1 x2 x3 c x18 (s : Int) (wrap64 (x19 - (s : Int))) (decide (x2 < wrap64 (x19 - (s : Int)))) else api_Write_116.j6 k X x1 x2 x3 c x18 (s : Int) (wrap64 (x19 - (s : Int))) false) Post) :
  ∀ (n s r : Nat), r - s ≤ n → s0 ≤ s → s ≤ r → r ≤ r0 → (s0 < s → lt (rd_T120 X ((p - (s - 1) : Nat) : Int)) (rd_T120 X ((s - 1 : Nat) : Int)) = false) → (r < r0 → lt (rd_T120 X ((p - r : Nat) : Int)) (rd_T120 X (r : Int)) = true) →
   ∀ x y z : Int, x = (s : Int) → y = (r : Int) → z = (p : Int) → p ≤ 2000000 → Runs (fun k => api_Write_116.l4 k X x1 x2 x3 c x18 x19 x y z) Post := by
 intro n
 induction n with
 | zero =>
  intro s r h1 h2 h3 h4 h5 h6 x y z hx hy hz hp
  obtain rfl : s = r := by omega
  refine Runs.step (H s h2 h4 h5 h6) 0 (fun k _ => ?_)
  rw [api_Write_116.l4, if_neg z7_, hx]
 | succ n ih =>
  intro s r h1 h2 h3 h4 h5 h6 x y z hx hy hz hp
  rcases Nat.lt_or_ge s r with h | h
  ·obtain ⟨m, hm1, hm2, hm⟩ := mid_at (o := 0) (i := s) (j := r) (x := x) (y := y) h z7_ z7_ z7_
   rw [Nat.zero_add] at hm
   obtain ⟨g1, g2, g3⟩ := hb m z7_ z7_
   have hw2 : Hid (wrap64 (z - ((m : Nat) : Int)) = ((p - m : Nat) : Int)) := by show wrap64 (z - ((m : Nat) : Int)) = ((p - m : Nat) : Int); rw [wr z7_ z7_]; omega
   have hw : Hid (wrap64 (((m : Nat) : Int) + 1) = ((m + 1 : Nat) : Int)) := by show wrap64 (((m : Nat) : Int) + 1) = ((m + 1 : Nat) : Int); rw [wr z7_ z7_]; omega
   have b0 : x < y := by omega
   have b1 : (0 : Int) ≤ ((p - m : Nat) : Int) := Int.natCast_nonneg _
   have b2 : ((p - m : Nat) : Int) < (X.length : Int) := by omega
   have b3 : (0 : Int) ≤ ((m : Nat) : Int) := Int.natCast_nonneg _
   have b4 : ((m : Nat) : Int) < (X.length : Int) := by omega
   by_cases c1 : lt (rd_T120 X ((p - m : Nat) : Int)) (rd_T120 X (m : Int)) = true
   ·have hgo := ih s m z7_ h2 hm1 z7_ h5 (fun _ => c1) x _ z hx rfl hz hp
    refine Runs.step hgo 5 (fun k hk => ?_)
    rw [api_Write_116.l4, if_pos b0, hm.out, hw2.out, if_pos b1, if_pos b2, if_pos b3, if_pos b4, order_eq _ _ hk]
    simp only [Option.bind_some]
    rw [if_pos ((order_neg _ _).2 c1)]
   ·have hgo := ih (m + 1) r z7_ z7_ z7_ h4 (fun _ => by simpa using c1) h6 _ y z rfl hy hz hp
    refine Runs.step hgo 5 (fun k hk => ?_)
    rw [api_Write_116.l4, if_pos b0, hm.out, hw2.out, if_pos b1, if_pos b2, if_pos b3, if_pos b4, order_eq _ _ hk]
    simp only [Option.bind_some]
    rw [if_neg (fun h => c1 ((order_neg _ _).1 h)), hw.out]
  ·exact (ih s r z7_ h2 h3 h4 h5 h6 x y z hx hy hz hp)
def Sym (c N : Nat) : Prop := ∀ (A U V C : List Wr) (a m b : Int), U.length + V.length ≤ N → U ≠ [] → V ≠ [] → Srt U → Srt V → A.length + U.length + V.length + C.length ≤ 400000 → a = (A.length : Int) → m = ((A.length + U.length : Nat) : Int) → b = ((A.length + U.length + V.length : Nat) : Int) →
 Runs (fun k => api_Write_116.f k (A ++ U ++ V ++ C) a m b c) (fun r => ∃ Y, r = A ++ Y ++ C ∧ Srt Y ∧ Stb (U ++ V) Y)
theorem part {c N : Nat} (ih : Sym c N) (A U V C : List Wr) (a m b : Int) (hN : U.length + V.length ≤ N) (hu : Srt U) (hv : Srt V) (hl : A.length + U.length + V.length + C.length ≤ 400000) (ha : a = (A.length : Int)) (hm : m = ((A.length + U.length : Nat) : Int)) (hb : b = ((A.length + U.length + V.length : Nat) : Int)) {X : List Wr} (hX : X = A ++ U ++ V ++ C) :
  Runs (fun k => if a < m then (if m < b then api_Write_116.f k X a m b c else some X) else some X) (fun r => ∃ Y, r = A ++ Y ++ C ∧ Srt Y ∧ Stb (U ++ V) Y) := by
 subst hX
 by_cases h1 : U = []
 ·refine Runs.now (A ++ U ++ V ++ C) ⟨V, by rw [h1]; simp, hv, by rw [h1]; exact Stb.refl V⟩ 0 (fun k _ => ?_)
  rw [if_neg (by rw [h1] at hm; simp at hm; omega)]
 ·have hu1 : 0 < U.length := List.length_pos_iff.2 h1
  by_cases h2 : V = []
  ·refine Runs.now (A ++ U ++ V ++ C) ⟨U, by rw [h2]; simp, hu, by rw [h2, List.append_nil]; exact Stb.refl U⟩ 0 (fun k _ => ?_)
   rw [if_pos z7_, if_neg (by rw [h2] at hb; simp at hb; omega)]
  ·have hv1 : 0 < V.length := List.length_pos_iff.2 h2
   refine (ih A U V C a m b hN h1 h2 hu hv hl ha hm hb).same 0 (fun k _ => ?_)
   rw [if_pos z7_, if_pos z7_]
theorem bind_same {α : Type} (o : Option α) : (o.bind fun t => some t) = o := by cases o <;> rfl
theorem fin {c N : Nat} (ih : Sym c N) (A U1 U2 V1 V2 C : List Wr) (a s m mid e b : Int) (hu : Srt (U1 ++ U2)) (hv : Srt (V1 ++ V2)) (h12 : ∀ u ∈ U1, ∀ v ∈ V2, lt v u = false) (h21 : ∀ v ∈ V1, ∀ u ∈ U2, lt v u = true)
  (hN1 : U1.length + V1.length ≤ N) (hN2 : U2.length + V2.length ≤ N) (hl : A.length + U1.length + U2.length + V1.length + V2.length + C.length ≤ 400000) (ha : a = (A.length : Int)) (hs : s = ((A.length + U1.length : Nat) : Int)) (hm : m = ((A.length + U1.length + U2.length : Nat) : Int)) (hmid : mid = ((A.length + U1.length + V1.length : Nat) : Int)) (he : e = ((A.length + U1.length + U2.length + V1.length : Nat) : Int)) (hb : b = ((A.length + U1.length + U2.length + V1.length + V2.length : Nat) : Int)) :
  Runs (fun k => if s < m then api_Write_116.j6 k (A ++ (U1 ++ U2) ++ (V1 ++ V2) ++ C) a m b c mid s e (decide (m < e)) else api_Write_116.j6 k (A ++ (U1 ++ U2) ++ (V1 ++ V2) ++ C) a m b c mid s e false) (fun r => ∃ Y, r = A ++ Y ++ C ∧ Srt Y ∧ Stb ((U1 ++ U2) ++ (V1 ++ V2)) Y) := by
 obtain ⟨u1, u2, u12⟩ := List.pairwise_append.1 hu
 obtain ⟨v1, v2, v12⟩ := List.pairwise_append.1 hv
 have hrest : ∀ Y1, Y1.length = U1.length + V1.length → Srt Y1 → Stb (U1 ++ V1) Y1 → Runs (fun k => if mid < e then (if e < b then api_Write_116.f k (A ++ Y1 ++ (U2 ++ V2 ++ C)) mid e b c else some (A ++ Y1 ++ (U2 ++ V2 ++ C))) else some (A ++ Y1 ++ (U2 ++ V2 ++ C))) (fun r => ∃ Y, r = A ++ Y ++ C ∧ Srt Y ∧ Stb ((U1 ++ U2) ++ (V1 ++ V2)) Y) := by
  intro Y1 hy hs1 hst
  have := part ih (A ++ Y1) U2 V2 C mid e b hN2 u2 v2 z141_ z141_ z141_ z141_ (X := A ++ Y1 ++ (U2 ++ V2 ++ C)) (by simp)
  refine this.post (fun r hr => ?_)
  obtain ⟨Y2, y1, y2, y3⟩ := hr
  refine ⟨Y1 ++ Y2, by rw [y1]; simp, Srt.app hs1 y2 (fun x hx y hy => ?_), ?_⟩
  ·rcases List.mem_append.1 ((hst.mem x).1 hx) with hx | hx <;> rcases List.mem_append.1 ((y3.mem y).1 hy) with hy | hy
   ·exact u12 x hx y hy
   ·exact h12 x hx y hy
   ·exact lt_nlt (h21 x hx y hy)
   ·exact v12 x hx y hy
  ·have q1 : Stb ((U1 ++ U2) ++ (V1 ++ V2)) ((U1 ++ V1) ++ (U2 ++ V2)) := by
    have := Stb.app (Stb.app (Stb.refl U1) (Stb.move (U := U2) (V := V1) (fun u hu v hv => h21 v hv u hu))) (Stb.refl V2)
    simpa using this
   exact q1.trans (Stb.app hst y3)
 have h7 : Runs (fun k => api_Write_116.j7 k (A ++ (U1 ++ V1) ++ (U2 ++ V2 ++ C)) a b c mid s e) (fun r => ∃ Y, r = A ++ Y ++ C ∧ Srt Y ∧ Stb ((U1 ++ U2) ++ (V1 ++ V2)) Y) := by
  have hp := part ih A U1 V1 (U2 ++ V2 ++ C) a s mid hN1 u1 v1 z140_ ha hs hmid (X := A ++ (U1 ++ V1) ++ (U2 ++ V2 ++ C)) (by simp)
  have h8 := Runs.bind (G := fun k t => if mid < e then (if e < b then api_Write_116.f k t mid e b c else some t) else some t) hp (fun r hr => by
   obtain ⟨Y, y1, y2, y3⟩ := hr
   subst y1
   exact hrest Y (by rw [y3.length.length_eq, List.length_append]) y2 y3)
  have h9 : Runs (fun k => api_Write_116.j8 k (A ++ (U1 ++ V1) ++ (U2 ++ V2 ++ C)) a b c mid s e (decide (a < s ∧ s < mid))) (fun r => ∃ Y, r = A ++ Y ++ C ∧ Srt Y ∧ Stb ((U1 ++ U2) ++ (V1 ++ V2)) Y) := by
   refine Runs.step h8 0 (fun k _ => ?_)
   rw [api_Write_116.j8]
   by_cases c1 : a < s
   ·by_cases c2 : s < mid
    ·simp only [c1, c2, and_self, decide_true, if_true, bind_same]
    ·simp only [c1, c2, and_false, decide_false, if_true, if_false, Bool.false_eq_true, bind_same, Option.bind_some]
   ·simp only [c1, false_and, decide_false, if_false, Bool.false_eq_true, bind_same, Option.bind_some]
  refine Runs.step h9 0 (fun k _ => ?_)
  rw [api_Write_116.j7]
  by_cases c1 : a < s
  ·simp only [c1, true_and, if_true]
  ·simp only [c1, false_and, decide_false, if_false]
 have h6 : Runs (fun k => api_Write_116.j6 k (A ++ (U1 ++ U2) ++ (V1 ++ V2) ++ C) a m b c mid s e (decide (s < m ∧ m < e))) (fun r => ∃ Y, r = A ++ Y ++ C ∧ Srt Y ∧ Stb ((U1 ++ U2) ++ (V1 ++ V2)) Y) := by
  by_cases d : U2 ≠ [] ∧ V1 ≠ []
  ·have d1 : 0 < U2.length := List.length_pos_iff.2 d.1
   have d2 : 0 < V1.length := List.length_pos_iff.2 d.2
   have hr := rotate_run c (A ++ U1) U2 V1 (V2 ++ C) d.1 d.2 z140_ (a := s) (m := m) (b := e) z140_ z140_ z140_
   have hg := Runs.bind (G := fun k t => api_Write_116.j7 k t a b c mid s e) hr (fun r hr => by
    subst hr
    have e1 : A ++ U1 ++ V1 ++ U2 ++ (V2 ++ C) = A ++ (U1 ++ V1) ++ (U2 ++ V2 ++ C) := by simp
    rw [e1]
    exact h7)
   refine Runs.step hg 0 (fun k _ => ?_)
   have e1 : A ++ (U1 ++ U2) ++ (V1 ++ V2) ++ C = A ++ U1 ++ U2 ++ V1 ++ (V2 ++ C) := by simp
   rw [api_Write_116.j6, if_pos (by simp only [decide_eq_true_eq]; omega), e1]
  ·have e1 : A ++ (U1 ++ U2) ++ (V1 ++ V2) ++ C = A ++ (U1 ++ V1) ++ (U2 ++ V2 ++ C) := by
    by_cases q : U2 = []
    ·rw [q]; simp
    ·have : V1 = [] := Classical.byContradiction fun h => d ⟨q, h⟩
     rw [this]; simp
   refine Runs.step h7 0 (fun k _ => ?_)
   rw [api_Write_116.j6, if_neg ?_, e1]
   intro h
   have h := of_decide_eq_true h
   refine d ⟨?_, ?_⟩
   ·intro q; rw [q] at hm; simp at hm; omega
   ·intro q; rw [q] at he; simp at he; omega
 refine h6.same 0 (fun k _ => ?_)
 by_cases c1 : s < m
 ·rw [if_pos c1]; simp only [c1, true_and]
 ·rw [if_neg c1]; simp only [c1, false_and, decide_false]
theorem gen {c N : Nat} (ih : Sym c N) (A U V C : List Wr) (a m b x y z w : Int) (M s0 r0 : Nat) (hN : U.length + V.length ≤ N + 1) (hu : Srt U) (hv : Srt V) (hl : A.length + U.length + V.length + C.length ≤ 400000) (ha : a = (A.length : Int)) (hm : m = ((A.length + U.length : Nat) : Int)) (hb : b = ((A.length + U.length + V.length : Nat) : Int))
  (hM1 : A.length < M) (hM2 : M < A.length + U.length + V.length) (g1 : A.length ≤ s0) (g2 : s0 ≤ r0) (g3 : r0 ≤ A.length + U.length) (g4 : r0 ≤ M) (g5 : M ≤ s0 + V.length) (g6 : s0 = A.length ∨ M = s0 + V.length) (g7 : r0 = A.length + U.length ∨ r0 = M) (hx : x = (M : Int)) (hy : y = ((M + (A.length + U.length) : Nat) : Int)) (hz : z = (s0 : Int)) (hw : w = (r0 : Int)) :
  Runs (fun k => api_Write_116.j4 k (A ++ U ++ V ++ C) a m b c x y z w) (fun r => ∃ Y, r = A ++ Y ++ C ∧ Srt Y ∧ Stb (U ++ V) Y) := by
 have hlen : (A ++ U ++ V ++ C).length = A.length + U.length + V.length + C.length := by simp only [List.length_append]
 have q1 : Hid (wrap64 (y - 1) = ((M + (A.length + U.length) - 1 : Nat) : Int)) := by show wrap64 (y - 1) = _; rw [wr z7_ z7_]; omega
 have rU : ∀ t, t < U.length → rd_T120 (A ++ U ++ V ++ C) ((A.length + t : Nat) : Int) = rd_T120 U (t : Int) := fun t ht => by
  rw [List.append_assoc (A ++ U)]
  exact rd_in A U (V ++ C) ht rfl
 have rV : ∀ t, t < V.length → rd_T120 (A ++ U ++ V ++ C) ((A.length + U.length + t : Nat) : Int) = rd_T120 V (t : Int) := fun t ht => rd_in (A ++ U) V C ht (by rw [List.length_append])
 have hgo := srch (A ++ U ++ V ++ C) a m b x y c (M + (A.length + U.length) - 1) s0 r0 (fun r => ∃ Y, r = A ++ Y ++ C ∧ Srt Y ∧ Stb (U ++ V) Y) (fun t t1 t2 => by rw [hlen]; omega) z7_ z7_ (fun s p1 p2 p3 p4 => ?_) (r0 - s0) s0 r0 (Nat.le_refl _) (Nat.le_refl _) g2 (Nat.le_refl _) (fun h => absurd h (Nat.lt_irrefl _)) (fun h => absurd h (Nat.lt_irrefl _)) z w _ hz hw rfl z7_
 ·refine Runs.step hgo 0 (fun k _ => ?_)
  rw [api_Write_116.j4, q1.out]
 ·obtain ⟨i, hi⟩ : ∃ i, s = A.length + i := ⟨s - A.length, z7_⟩
  obtain ⟨j, hj⟩ : ∃ j, M = s + j := ⟨M - s, z7_⟩
  have hiU : i ≤ U.length := by omega
  have hjV : j ≤ V.length := by omega
  have q2 : Hid (wrap64 (y - (s : Int)) = ((A.length + U.length + j : Nat) : Int)) := by show wrap64 (y - (s : Int)) = _; rw [wr z7_ z7_]; omega
  have h12 : ∀ u ∈ U.take i, ∀ v ∈ V.drop j, lt v u = false := fun u hu1 v hv1 => by
   obtain ⟨t, t1, t2, rfl⟩ := mem_take_rd hu1
   obtain ⟨t', t3, t4, rfl⟩ := mem_drop_rd hv1
   have hlt : s0 < s := by
    rcases g6 with g | g
    ·omega
    ·omega
   have h := p3 hlt
   rw [show M + (A.length + U.length) - 1 - (s - 1) = A.length + U.length + j from z7_, show s - 1 = A.length + (i - 1) from z7_, rU _ z7_, rV _ z7_] at h
   exact nlt_trans (nlt_trans (srt_at hu (z7_ : t ≤ i - 1) z7_) h) (srt_at hv t3 t4)
  have h21 : ∀ v ∈ V.take j, ∀ u ∈ U.drop i, lt v u = true := fun v hv1 u hu1 => by
   obtain ⟨t, t1, t2, rfl⟩ := mem_take_rd hv1
   obtain ⟨t', t3, t4, rfl⟩ := mem_drop_rd hu1
   have hlt : s < r0 := by
    rcases g7 with g | g
    ·omega
    ·omega
   have h := p4 hlt
   rw [show M + (A.length + U.length) - 1 - s = A.length + U.length + (j - 1) from z7_, hi, rU _ z7_, rV _ z7_] at h
   exact lt_of_le_lt (srt_at hv (z7_ : t ≤ j - 1) z7_) (lt_of_lt_le h (srt_at hu t3 t4))
  have hf := fin ih A (U.take i) (U.drop i) (V.take j) (V.drop j) C a (s : Int) m x ((A.length + U.length + j : Nat) : Int) b (by rw [List.take_append_drop]; exact hu) (by rw [List.take_append_drop]; exact hv) h12 h21 z147_ (by simp only [List.length_drop]; omega) z148_ ha z147_ z148_ z147_ z148_ z148_
  rw [List.take_append_drop, List.take_append_drop] at hf
  rw [q2.out]
  exact hf
theorem sym (c : Nat) : ∀ N, Sym c N := by
 intro N
 induction N with
 | zero => intro A U V C a m b hN hu0 hv0; exact absurd (List.eq_nil_of_length_eq_zero z7_) hu0
 | succ N ih =>
  intro A U V C a m b hN hu0 hv0 hu hv hl ha hm hb
  have hu1 : 0 < U.length := List.length_pos_iff.2 hu0
  have hv1 : 0 < V.length := List.length_pos_iff.2 hv0
  have w1 : Hid (wrap64 (m - a) = (U.length : Int)) := by show wrap64 (m - a) = _; rw [wr z7_ z7_]; omega
  have w2 : Hid (wrap64 (b - m) = (V.length : Int)) := by show wrap64 (b - m) = _; rw [wr z7_ z7_]; omega
  by_cases c1 : U.length = 1
  ·obtain ⟨u, rfl⟩ := List.length_eq_one_iff.1 c1
   simp only [List.length_cons, List.length_nil] at *
   have hgo := l0_go A V C u hv z7_ ha V.length 0 V.length m b (Nat.le_refl _) (Nat.zero_le _) (Nat.le_refl _) (fun t ht => absurd ht (Nat.not_lt_zero t)) (fun t ht ht2 => absurd ht2 z7_) z7_ z7_
   refine Runs.step (hgo.post (fun r hr => by simpa using hr)) 0 (fun k _ => ?_)
   rw [api_Write_116.f, w1.out, if_pos (by simp)]
   simp
  ·by_cases c2 : V.length = 1
   ·obtain ⟨v, rfl⟩ := List.length_eq_one_iff.1 c2
    simp only [List.length_cons, List.length_nil] at *
    have hgo := l2_go A U C v hu z7_ (m2 := m) hm U.length 0 U.length a m (Nat.le_refl _) (Nat.zero_le _) (Nat.le_refl _) (fun t ht => absurd ht (Nat.not_lt_zero t)) (fun t ht ht2 => absurd ht2 z7_) z7_ z7_
    refine Runs.step hgo 0 (fun k _ => ?_)
    rw [api_Write_116.f, w1.out, w2.out, if_neg z7_, if_pos (by simp)]
    simp
   ·have hme : Hid (wrap64 ((IntKind.u64.wrap (wrap64 (a + b))) / 2) = (((A.length + (A.length + U.length + V.length)) / 2 : Nat) : Int)) := mid_eq (i := A.length) (j := A.length + U.length + V.length) z7_ ha hb
    generalize hM : (A.length + (A.length + U.length + V.length)) / 2 = M at hme
    have w3 : Hid (wrap64 ((M : Int) + m) = ((M + (A.length + U.length) : Nat) : Int)) := by show wrap64 ((M : Int) + m) = _; rw [wr z7_ z7_]; omega
    by_cases c3 : m > (M : Int)
    ·have w4 : Hid (wrap64 (((M + (A.length + U.length) : Nat) : Int) - b) = ((M + (A.length + U.length) - (A.length + U.length + V.length) : Nat) : Int)) := by show wrap64 (((M + (A.length + U.length) : Nat) : Int) - b) = _; rw [wr z7_ z7_]; omega
     have hgo := gen ih A U V C a m b (M : Int) _ _ (M : Int) M (M + (A.length + U.length) - (A.length + U.length + V.length)) M hN hu hv hl ha hm hb z7_ z7_ z7_ z7_ z7_ z7_ z7_ z7_ (Or.inr rfl) rfl rfl rfl rfl
     refine Runs.step hgo 0 (fun k _ => ?_)
     rw [api_Write_116.f, w1.out, w2.out, hme.out, w3.out, w4.out, if_neg z7_, if_neg z7_, if_pos c3]
    ·have hgo := gen ih A U V C a m b (M : Int) _ a m M A.length (A.length + U.length) hN hu hv hl ha hm hb z7_ z7_ z7_ z7_ z7_ z7_ z7_ z7_ (Or.inl rfl) rfl rfl ha hm
     refine Runs.step hgo 0 (fun k _ => ?_)
     rw [api_Write_116.f, w1.out, w2.out, hme.out, w3.out, if_neg z7_, if_neg z7_, if_neg c3]
inductive Blk (s : Nat) : List Wr → Prop
 | base {X : List Wr} : X.length ≤ s → Srt X → Blk s X
 | step {U X : List Wr} : U.length = s → Srt U → Blk s X → Blk s (U ++ X)
theorem Blk.cut {s : Nat} {R : List Wr} (h : Blk s R) (hl : s ≤ R.length) : ∃ U X, R = U ++ X ∧ U.length = s ∧ Srt U ∧ Blk s X := by
 cases h with
 | base h1 h2 => exact ⟨R, [], by simp, z7_, h2, .base (Nat.zero_le _) List.Pairwise.nil⟩
 | @step U X h1 h2 h3 => exact ⟨U, X, rfl, h1, h2, h3⟩
theorem Blk.srt {s : Nat} {R : List Wr} (h : Blk s R) (hl : R.length ≤ s) : Srt R := by
 cases h with
 | base h1 h2 => exact h2
 | @step U X h1 h2 h3 =>
  rw [List.length_append] at hl
  obtain rfl := List.eq_nil_of_length_eq_zero (z7_ : X.length = 0)
  rw [List.append_nil]
  exact h2
theorem ins_go (c : Nat) (n : Int) (Post : List Wr → Prop) : ∀ (m : Nat) (A R : List Wr) (x7 x8 : Int), R.length ≤ m → A.length + R.length ≤ 400000 → n = ((A.length + R.length : Nat) : Int) → x7 = (A.length : Int) → x8 = ((A.length + 20 : Nat) : Int) →
  (∀ Y, Blk 20 Y → Stb R Y → Runs (fun k => api_Write_108.l1 k (A ++ Y) n c 20) Post) → Runs (fun k => api_Write_108.l0 k (A ++ R) n c 20 x7 x8) Post := by
 intro m
 induction m with
 | zero =>
  intro A R x7 x8 hm hl hn h7 h8 H
  obtain rfl := List.eq_nil_of_length_eq_zero (z7_ : R.length = 0)
  have hs := ins_sort A [] [] c (by simp only [List.length_nil]; simp only [List.length_nil] at hl; omega)
  have hg := Runs.bind (G := fun k t => api_Write_108.l1 k t n c 20) hs (fun r hr => by
   obtain ⟨Y, y1, y2, y3⟩ := hr
   subst y1
   rw [List.append_nil]
   exact H Y (.base (by rw [y3.length.length_eq]; exact Nat.zero_le _) y2) y3)
  refine Runs.step hg 0 (fun k _ => ?_)
  simp only [List.length_nil] at hn
  rw [api_Write_108.l0, if_neg z7_, h7, hn]
  simp
 | succ m ih =>
  intro A R x7 x8 hm hl hn h7 h8 H
  by_cases c1 : 20 ≤ R.length
  ·obtain ⟨U, X, rfl, hU⟩ : ∃ U X, R = U ++ X ∧ U.length = 20 := ⟨R.take 20, R.drop 20, (List.take_append_drop _ _).symm, z145_⟩
   rw [List.length_append] at hm hl hn c1
   have hw : Hid (wrap64 (x8 + 20) = ((A.length + 20 + 20 : Nat) : Int)) := by show wrap64 (x8 + 20) = _; rw [wr z7_ z7_]; omega
   have hs := ins_sort A U X c z7_
   have hg := Runs.bind (G := fun k t => api_Write_108.l0 k t n c 20 x8 (wrap64 (x8 + 20))) hs (fun r hr => by
    obtain ⟨Y, y1, y2, y3⟩ := hr
    subst y1
    rw [hw.out]
    have hy : Y.length = 20 := by rw [y3.length.length_eq]; exact hU
    exact ih (A ++ Y) X _ _ z7_ z141_ z141_ z141_ z141_ (fun Z z1 z2 => by
     rw [List.append_assoc]
     exact H (Y ++ Z) (.step hy y2 z1) (Stb.app y3 z2)))
   refine Runs.step hg 0 (fun k _ => ?_)
   rw [api_Write_108.l0, if_pos z7_, h7, show x8 = ((A.length + U.length : Nat) : Int) by rw [hU]; exact h8, ← List.append_assoc]
  ·have hs := ins_sort A R [] c z142_
   have hg := Runs.bind (G := fun k t => api_Write_108.l1 k t n c 20) hs (fun r hr => by
    obtain ⟨Y, y1, y2, y3⟩ := hr
    subst y1
    rw [List.append_nil]
    exact H Y (.base (by rw [y3.length.length_eq]; omega) y2) y3)
   refine Runs.step hg 0 (fun k _ => ?_)
   rw [api_Write_108.l0, if_neg z7_, h7, hn, List.append_nil]
theorem merge_go (c s : Nat) (n : Int) (hs1 : 1 ≤ s) (hs2 : s ≤ 400000) (Post : List Wr → Prop) : ∀ (m : Nat) (A R : List Wr) (x7 x8 : Int), R.length ≤ m → Blk s R → A.length + R.length ≤ 400000 → n = ((A.length + R.length : Nat) : Int) → x7 = (A.length : Int) → x8 = ((A.length + 2 * s : Nat) : Int) →
  (∀ Y, Blk (2 * s) Y → Stb R Y → Runs (fun k => api_Write_108.l1 k (A ++ Y) n c ((2 * s : Nat) : Int)) Post) → Runs (fun k => api_Write_108.l2 k (A ++ R) n c (s : Int) x7 x8) Post := by
 have hw2 : Hid (wrap64 ((s : Int) * 2) = ((2 * s : Nat) : Int)) := by show wrap64 ((s : Int) * 2) = _; rw [wr z7_ z7_]; omega
 have hw3 : Hid (wrap64 (2 * (s : Int)) = ((2 * s : Nat) : Int)) := by show wrap64 (2 * (s : Int)) = _; rw [wr z7_ z7_]; omega
 intro m
 induction m with
 | zero =>
  intro A R x7 x8 hm hb hl hn h7 h8 H
  have hw1 : Hid (wrap64 (x7 + (s : Int)) = ((A.length + s : Nat) : Int)) := by show wrap64 (x7 + (s : Int)) = _; rw [wr z7_ z7_]; omega
  have hg := H R (.base z7_ (hb.srt z7_)) (Stb.refl R)
  refine Runs.step hg 0 (fun k _ => ?_)
  rw [api_Write_108.l2, if_neg z7_, hw1.out, if_neg z7_, hw2.out]
 | succ m ih =>
  intro A R x7 x8 hm hb hl hn h7 h8 H
  have hw1 : Hid (wrap64 (x7 + (s : Int)) = ((A.length + s : Nat) : Int)) := by show wrap64 (x7 + (s : Int)) = _; rw [wr z7_ z7_]; omega
  by_cases c1 : s < R.length
  ·obtain ⟨U, R1, rfl, hU, sU, b1⟩ := hb.cut z7_
   rw [List.length_append] at hm hl hn c1
   have hU0 : U ≠ [] := by intro h; rw [h] at hU; simp at hU; omega
   have hR0 : R1 ≠ [] := by intro h; rw [h] at c1; simp at c1; omega
   by_cases c2 : s ≤ R1.length
   ·obtain ⟨V, R2, rfl, hV, sV, b2⟩ := b1.cut c2
    rw [List.length_append] at hm hl hn c1
    have hV0 : V ≠ [] := by intro h; rw [h] at hV; simp at hV; omega
    have hw4 : Hid (wrap64 (x8 + ((2 * s : Nat) : Int)) = ((A.length + 2 * s + 2 * s : Nat) : Int)) := by show wrap64 (x8 + ((2 * s : Nat) : Int)) = _; rw [wr z7_ z7_]; omega
    have hs := sym c _ A U V R2 x7 ((A.length + s : Nat) : Int) x8 (Nat.le_refl _) hU0 hV0 sU sV z7_ h7 z7_ z7_
    have hg := Runs.bind (G := fun k t => api_Write_108.l2 k t n c (s : Int) x8 (wrap64 (x8 + ((2 * s : Nat) : Int)))) hs (fun r hr => by
     obtain ⟨Y, y1, y2, y3⟩ := hr
     subst y1
     have hy : Y.length = 2 * s := by rw [y3.length.length_eq, List.length_append]; omega
     rw [hw4.out]
     exact ih (A ++ Y) R2 _ _ z7_ b2 z141_ z141_ z141_ z141_ (fun Z z1 z2 => by
      rw [List.append_assoc]
      refine H (Y ++ Z) (.step hy y2 z1) ?_
      have := Stb.app y3 z2
      rw [List.append_assoc] at this
      exact this))
    refine Runs.step hg 0 (fun k _ => ?_)
    have e1 : A ++ (U ++ (V ++ R2)) = A ++ U ++ V ++ R2 := by simp
    rw [api_Write_108.l2, if_pos z7_, hw1.out, hw3.out, e1]
   ·have sV := b1.srt z7_
    have hs := sym c _ A U R1 [] x7 ((A.length + s : Nat) : Int) n (Nat.le_refl _) hU0 hR0 sU sV z142_ h7 z7_ z7_
    have hg := Runs.bind (G := fun k t => api_Write_108.l1 k t n c ((2 * s : Nat) : Int)) hs (fun r hr => by
     obtain ⟨Y, y1, y2, y3⟩ := hr
     subst y1
     rw [List.append_nil]
     exact H Y (.base (by rw [y3.length.length_eq, List.length_append]; omega) y2) y3)
    refine Runs.step hg 0 (fun k _ => ?_)
    have e1 : A ++ (U ++ R1) = A ++ U ++ R1 ++ [] := by simp
    rw [api_Write_108.l2, if_neg z7_, hw1.out, if_pos z7_, hw2.out, e1]
  ·have hg := H R (.base z7_ (hb.srt z7_)) (Stb.refl R)
   refine Runs.step hg 0 (fun k _ => ?_)
   rw [api_Write_108.l2, if_neg z7_, hw1.out, if_neg z7_, hw2.out]
theorem out_go (c : Nat) (n : Int) : ∀ (m s : Nat) (X : List Wr), X.length - s ≤ m → 1 ≤ s → Blk s X → X.length ≤ 400000 → n = (X.length : Int) → Runs (fun k => api_Write_108.l1 k X n c (s : Int)) (fun r => Srt r ∧ Stb X r) := by
 intro m
 induction m with
 | zero =>
  intro s X hm hs hb hl hn
  refine Runs.now X ⟨hb.srt z7_, Stb.refl X⟩ 1 (fun k hk => ?_)
  obtain ⟨k, rfl⟩ : ∃ m, k = m + 1 := ⟨k - 1, z7_⟩
  rw [api_Write_108.l1, if_neg z7_]
 | succ m ih =>
  intro s X hm hs hb hl hn
  by_cases c1 : s < X.length
  ·have hw : Hid (wrap64 (2 * (s : Int)) = ((([] : List Wr).length + 2 * s : Nat) : Int)) := by show wrap64 (2 * (s : Int)) = _; rw [wr z7_ z7_]; simp
   have hg := merge_go c s n hs z7_ (fun r => Srt r ∧ Stb X r) X.length [] X 0 _ (Nat.le_refl _) hb z142_ z142_ rfl rfl (fun Y y1 y2 => by
    have hy : Y.length = X.length := y2.length.length_eq
    exact (ih (2 * s) Y z7_ z7_ y1 z7_ z7_).post (fun r hr => ⟨hr.1, y2.trans hr.2⟩))
   refine Runs.step hg 0 (fun k _ => ?_)
   rw [api_Write_108.l1, if_pos z7_, hw.out]
   rfl
  ·refine Runs.now X ⟨hb.srt z7_, Stb.refl X⟩ 1 (fun k hk => ?_)
   obtain ⟨k, rfl⟩ : ∃ m, k = m + 1 := ⟨k - 1, z7_⟩
   rw [api_Write_108.l1, if_neg z7_]
theorem sort_run (X : List Wr) (c : Nat) (hl : X.length ≤ 400000) : Runs (fun k => api_Write_92.f k X c) (fun r => Srt r ∧ Stb X r) := by
 have hg := ins_go c (X.length : Int) (fun r => Srt r ∧ Stb X r) X.length [] X 0 20 (Nat.le_refl _) z142_ z142_ rfl rfl (fun Y y1 y2 => by
  have hy : Y.length = X.length := y2.length.length_eq
  exact (out_go c _ _ 20 Y (Nat.le_refl _) z8_ y1 z7_ z7_).post (fun r hr => ⟨hr.1, y2.trans hr.2⟩))
 refine hg.same 0 (fun k _ => ?_)
 unfold api_Write_92.f api_Write_108.f
 rw [bind_same]
 rfl
end Go.Proofs.Ytecfndblgefhdaa.Sort
