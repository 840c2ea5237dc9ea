import Derived.Test.YtecfndblgefhdaaKzSort
set_option linter.unusedVariables false
set_option linter.unusedSimpArgs false
namespace Go.Proofs.Ytecfndblgefhdaa.Sort
open Go.RowKit Go.Proofs.Ytecfndblgefhdaa.R Go.Proofs.YtecfndblgefhdaaW.PrintWords Go.Proofs.YtecfndblgefhdaaW.PrintLast Go.Proofs.YtecfndblgefhdaaW.PrintMore
theorem rd_in (P V Q : List Wr) {t : Nat} (h : t < V.length) {i : Int} (hi : i = ((P.length + t : Nat) : Int)) : rd_T120 (P ++ V ++ Q) i = rd_T120 V (t : Int) := by
 unfold rd_T120
 rw [hi, Int.toNat_natCast, Int.toNat_natCast, List.getD_eq_getElem?_getD, List.getD_eq_getElem?_getD, List.append_assoc, List.getElem?_append_right z7_, show P.length + t - P.length = t from z7_, List.getElem?_append_left h]
theorem rd_get (V : List Wr) {t : Nat} (h : t < V.length) : rd_T120 V (t : Int) = V[t] := by
 unfold rd_T120
 rw [Int.toNat_natCast, List.getD_eq_getElem?_getD, List.getElem?_eq_getElem h]
 rfl
theorem srt_at {V : List Wr} (h : Srt V) {s t : Nat} (hs : s ≤ t) (ht : t < V.length) : lt (rd_T120 V (t : Int)) (rd_T120 V (s : Int)) = false := by
 rw [rd_get V ht, rd_get V z7_]
 rcases Nat.lt_or_ge s t with h1 | h1
 ·exact List.pairwise_iff_getElem.1 h s t z7_ ht h1
 ·obtain rfl : s = t := by omega
  rw [nlt_iff]
  omega
theorem mem_take_rd {V : List Wr} {s : Nat} {y : Wr} (h : y ∈ V.take s) : ∃ t, t < s ∧ t < V.length ∧ y = rd_T120 V (t : Int) := by
 obtain ⟨t, ht, rfl⟩ := List.mem_iff_getElem.1 h
 rw [List.length_take] at ht
 exact ⟨t, z7_, z7_, by rw [List.getElem_take, rd_get V z7_]⟩
theorem mem_drop_rd {V : List Wr} {s : Nat} {y : Wr} (h : y ∈ V.drop s) : ∃ t, s ≤ t ∧ t < V.length ∧ y = rd_T120 V (t : Int) := by
 obtain ⟨t, ht, rfl⟩ := List.mem_iff_getElem.1 h
 rw [List.length_drop] at ht
 exact ⟨s + t, z7_, z7_, by rw [List.getElem_drop, rd_get V z7_]⟩
theorem Srt.take {V : List Wr} (h : Srt V) (s : Nat) : Srt (V.take s) := List.Pairwise.sublist (List.take_sublist s V) h
theorem Srt.drop {V : List Wr} (h : Srt V) (s : Nat) : Srt (V.drop s) := List.Pairwise.sublist (List.drop_sublist s V) h
theorem Srt.app {U V : List Wr} (hu : Srt U) (hv : Srt V) (h : ∀ u ∈ U, ∀ v ∈ V, lt v u = false) : Srt (U ++ V) := List.pairwise_append.2 ⟨hu, hv, h⟩
theorem mid_eq {i j : Nat} (h : i + j ≤ 8000000) {x y : Int} (hx : x = (i : Int)) (hy : y = (j : Int)) : wrap64 ((IntKind.u64.wrap (wrap64 (x + y))) / 2) = (((i + j) / 2 : Nat) : Int) := by
 have e1 : wrap64 (x + y) = ((i + j : Nat) : Int) := by rw [wr z7_ z7_]; omega
 have e2 : IntKind.u64.wrap (((i + j : Nat) : Int)) = ((i + j : Nat) : Int) := by rw [IntKind.wrap_u64, Int.emod_eq_of_lt z7_ z7_]
 have e3 : (((i + j : Nat) : Int)) / 2 = (((i + j) / 2 : Nat) : Int) := by omega
 rw [e1, e2, e3]
 exact wr z7_ z7_
theorem swap_far (P M Q : List Wr) (u v : Wr) {i j : Int} (hi : i = (P.length : Int)) (hj : j = ((P.length + 1 + M.length : Nat) : Int)) :
  ((P ++ u :: (M ++ v :: Q)).set i.toNat (rd_T120 (P ++ u :: (M ++ v :: Q)) j)).set j.toNat (rd_T120 (P ++ u :: (M ++ v :: Q)) i) = P ++ v :: (M ++ u :: Q) := by
 have e1 : P ++ u :: (M ++ v :: Q) = (P ++ u :: M) ++ v :: Q := by simp
 have r2 : rd_T120 (P ++ u :: (M ++ v :: Q)) j = v := by rw [e1]; exact rd_mid _ _ _ z143_
 rw [rd_mid P (M ++ v :: Q) u hi, r2, set_mid P (M ++ v :: Q) u v z7_, show P ++ v :: (M ++ v :: Q) = (P ++ v :: M) ++ v :: Q by simp, set_mid (P ++ v :: M) Q v u z143_]
 simp
theorem swap_go (P M Q : List Wr) (n : Int) : ∀ (U2 V2 U1 V1 : List Wr), U2.length = V2.length → U1.length = V1.length → P.length + M.length + Q.length + 2 * (U1.length + U2.length) ≤ 1000000 → n = ((U1.length + U2.length : Nat) : Int) →
  Runs (fun k => api_Write_122.l0 k (P ++ (V1 ++ U2) ++ (M ++ (U1 ++ V2) ++ Q)) (P.length : Int) ((P.length + (U1.length + U2.length) + M.length : Nat) : Int) n (U1.length : Int)) (fun r => r = P ++ (V1 ++ V2) ++ (M ++ (U1 ++ U2) ++ Q)) := by
 intro U2
 induction U2 with
 | nil =>
  intro V2 U1 V1 h1 h2 h3 hn
  obtain rfl := List.eq_nil_of_length_eq_zero (by simpa using h1.symm : V2.length = 0)
  refine Runs.now _ rfl 1 (fun k hk => ?_)
  obtain ⟨k, rfl⟩ : ∃ m, k = m + 1 := ⟨k - 1, z7_⟩
  rw [api_Write_122.l0, if_neg (by rw [hn]; simp)]
 | cons u U2 ih =>
  intro V2 U1 V1 h1 h2 h3 hn
  cases V2 with
  | nil => simp at h1
  | cons v V2 =>
   simp only [List.length_cons] at h1 h3 hn
   have hX : P ++ (V1 ++ u :: U2) ++ (M ++ (U1 ++ v :: V2) ++ Q) = (P ++ V1) ++ u :: ((U2 ++ M ++ U1) ++ v :: (V2 ++ Q)) := by simp
   have hl : (P ++ (V1 ++ u :: U2) ++ (M ++ (U1 ++ v :: V2) ++ Q)).length = P.length + V1.length + 1 + U2.length + M.length + U1.length + 1 + V2.length + Q.length := by simp only [List.length_append, List.length_cons]; omega
   have hb0 : ((P.length + (U1.length + (U2.length + 1)) + M.length + U1.length : Nat) : Int) < ((P ++ (V1 ++ u :: U2) ++ (M ++ (U1 ++ v :: V2) ++ Q)).length : Int) := by rw [hl]; omega
   have hb1 : ((P.length + U1.length : Nat) : Int) < ((P ++ (V1 ++ u :: U2) ++ (M ++ (U1 ++ v :: V2) ++ Q)).length : Int) := by rw [hl]; omega
   have hb2 : (U1.length : Int) < n := by rw [hn]; omega
   have hb3 : (0 : Int) ≤ ((P.length + (U1.length + (u :: U2).length) + M.length + U1.length : Nat) : Int) := Int.natCast_nonneg _
   have hb4 : (0 : Int) ≤ ((P.length + U1.length : Nat) : Int) := Int.natCast_nonneg _
   have hw1 : wrap64 (((P.length + (U1.length + (u :: U2).length) + M.length : Nat) : Int) + (U1.length : Int)) = ((P.length + (U1.length + (u :: U2).length) + M.length + U1.length : Nat) : Int) := by rw [wr z29_ z29_]; exact (Int.natCast_add _ _).symm
   have hw2 : wrap64 ((P.length : Int) + (U1.length : Int)) = ((P.length + U1.length : Nat) : Int) := by clear hw1; rw [wr z7_ z7_]; exact (Int.natCast_add _ _).symm
   have hw3 : wrap64 ((U1.length : Int) + 1) = ((U1 ++ [u]).length : Int) := by clear hw1 hw2; rw [wr z7_ z7_]; simp
   have hgo := ih V2 (U1 ++ [u]) (V1 ++ [v]) (by clear hw1 hw2 hw3; omega) (by simp [h2]) z139_ (by rw [hn]; simp only [List.length_append, List.length_cons, List.length_nil]; omega)
   have hsw := swap_far (P ++ V1) (U2 ++ M ++ U1) (V2 ++ Q) u v (i := ((P.length + U1.length : Nat) : Int)) (j := ((P.length + (U1.length + (u :: U2).length) + M.length + U1.length : Nat) : Int)) z140_ (by simp only [List.length_append, List.length_cons]; omega)
   have hgo2 : Runs (fun k => api_Write_122.l0 k (P ++ (V1 ++ [v] ++ U2) ++ (M ++ (U1 ++ [u] ++ V2) ++ Q)) (P.length : Int) ((P.length + (U1.length + (u :: U2).length) + M.length : Nat) : Int) n ((U1 ++ [u]).length : Int)) (fun r => r = P ++ (V1 ++ v :: V2) ++ (M ++ (U1 ++ u :: U2) ++ Q)) := by
    refine (hgo.post (fun r hr => z144_)).same 0 (fun k _ => ?_)
    congr 1
    simp only [List.length_append, List.length_cons, List.length_nil]
    omega
   refine Runs.step hgo2 0 (fun k hk => ?_)
   rw [api_Write_122.l0, if_pos hb2, hw1, hw2, if_pos hb3, if_pos (by rw [List.length_cons]; exact hb0), if_pos hb4, if_pos hb1, hw3, eta, eta, hX, hsw]
   congr 1
   simp
theorem swap_range (P U M V Q : List Wr) (c : Nat) (h : U.length = V.length) (hl : P.length + M.length + Q.length + 2 * U.length ≤ 1000000) {a b n : Int} (ha : a = (P.length : Int)) (hb : b = ((P.length + U.length + M.length : Nat) : Int)) (hn : n = (U.length : Int)) :
  Runs (fun k => api_Write_122.f k (P ++ U ++ (M ++ V ++ Q)) a b n c) (fun r => r = P ++ V ++ (M ++ U ++ Q)) := by
 have := swap_go P M Q n U V [] [] h rfl (by simpa using hl) (by rw [hn]; simp)
 unfold api_Write_122.f
 rw [ha, hb]
 simpa using this
theorem rot_go (c : Nat) : ∀ (n : Nat) (P U V Q : List Wr), U.length + V.length ≤ n → U ≠ [] → V ≠ [] → P.length + U.length + V.length + Q.length ≤ 500000 →
  Runs (fun k => api_Write_120.l0 k (P ++ U ++ V ++ Q) ((P.length + U.length : Nat) : Int) c (U.length : Int) (V.length : Int)) (fun r => r = P ++ V ++ U ++ Q) := by
 intro n
 induction n with
 | zero => intro P U V Q h hu; exact absurd (List.eq_nil_of_length_eq_zero z7_) hu
 | succ n ih =>
  intro P U V Q h hu hv hl
  have hu1 : 0 < U.length := List.length_pos_iff.2 hu
  have hv1 : 0 < V.length := List.length_pos_iff.2 hv
  have hw1 : wrap64 (((P.length + U.length : Nat) : Int) - (U.length : Int)) = (P.length : Int) := by rw [wr z7_ z7_]; omega
  by_cases c1 : U.length = V.length
  ·have hs := swap_range P U [] V Q c c1 z142_ (a := (P.length : Int)) (b := ((P.length + U.length : Nat) : Int)) (n := (U.length : Int)) rfl (by simp) rfl
   have hs2 : Runs (fun k => (api_Write_122.f k (P ++ U ++ V ++ Q) (P.length : Int) ((P.length + U.length : Nat) : Int) (U.length : Int) c).bind fun t => some t) (fun r => r = P ++ V ++ U ++ Q) := by
    refine Runs.bind (P := fun r => r = P ++ V ++ U ++ Q) ((hs.post (fun r hr => z144_)).same 0 (fun k _ => by simp)) (fun r hr => Runs.now r hr 0 (fun _ _ => rfl))
   refine Runs.step hs2 0 (fun k _ => ?_)
   rw [api_Write_120.l0, if_pos z7_, hw1]
  ·by_cases c2 : V.length < U.length
   ·obtain ⟨U1, U2, rfl, hU1⟩ : ∃ U1 U2, U = U1 ++ U2 ∧ U1.length = V.length := ⟨U.take V.length, U.drop V.length, (List.take_append_drop _ _).symm, z145_⟩
    rw [List.length_append] at *
    have hs := swap_range P U1 U2 V Q c hU1 z7_ (a := (P.length : Int)) (b := ((P.length + (U1.length + U2.length) : Nat) : Int)) (n := (V.length : Int)) rfl z7_ z7_
    have hgo := ih (P ++ V) U2 U1 Q z7_ (by intro h9; rw [h9] at c2; simp at c2; omega) (by intro h9; rw [h9] at hU1; simp at hU1; omega) z141_
    refine Runs.step (F := fun k => (api_Write_122.f k (P ++ (U1 ++ U2) ++ V ++ Q) (P.length : Int) ((P.length + (U1.length + U2.length) : Nat) : Int) (V.length : Int) c).bind fun t => api_Write_120.l0 k t ((P.length + (U1.length + U2.length) : Nat) : Int) c (wrap64 (((U1.length + U2.length : Nat) : Int) - (V.length : Int))) (V.length : Int)) ?_ 0 (fun k _ => ?_)
    ·refine Runs.bind (P := fun r => r = P ++ V ++ (U2 ++ U1 ++ Q)) (hs.same 0 (fun k _ => by simp)) (fun r hr => ?_)
     subst hr
     have hw2 : wrap64 (((U1.length + U2.length : Nat) : Int) - (V.length : Int)) = (U2.length : Int) := by rw [wr z7_ z7_]; omega
     rw [hw2]
     refine (hgo.post (fun r hr => z144_)).same 0 (fun k _ => ?_)
     have e1 : P ++ V ++ (U2 ++ U1 ++ Q) = P ++ V ++ U2 ++ U1 ++ Q := by simp
     rw [e1, hU1, List.length_append]
     congr 1
     omega
    ·rw [api_Write_120.l0, if_neg z7_, if_pos z7_, hw1]
   ·obtain ⟨V1, V2, rfl, hV2⟩ : ∃ V1 V2, V = V1 ++ V2 ∧ V2.length = U.length := ⟨V.take (V.length - U.length), V.drop (V.length - U.length), (List.take_append_drop _ _).symm, by rw [List.length_drop]; omega⟩
    rw [List.length_append] at *
    have hV1 : V1 ≠ [] := by intro h9; rw [h9] at c1; simp at c1; omega
    have hs := swap_range P U V1 V2 Q c hV2.symm z7_ (a := (P.length : Int)) (b := ((P.length + U.length + V1.length : Nat) : Int)) (n := (U.length : Int)) rfl z7_ rfl
    have hgo := ih P V2 V1 (U ++ Q) (by have := List.length_pos_iff.2 hV1; omega) (by intro h9; rw [h9] at hV2; simp at hV2; omega) hV1 z141_
    have hw3 : wrap64 (wrap64 (((P.length + U.length : Nat) : Int) + ((V1.length + V2.length : Nat) : Int)) - (U.length : Int)) = ((P.length + U.length + V1.length : Nat) : Int) := by rw [wr (n := ((P.length + U.length : Nat) : Int) + ((V1.length + V2.length : Nat) : Int)) z7_ z7_, wr z7_ z7_]; omega
    refine Runs.step (F := fun k => (api_Write_122.f k (P ++ U ++ (V1 ++ V2) ++ Q) (P.length : Int) ((P.length + U.length + V1.length : Nat) : Int) (U.length : Int) c).bind fun t => api_Write_120.l0 k t ((P.length + U.length : Nat) : Int) c (U.length : Int) (wrap64 (((V1.length + V2.length : Nat) : Int) - (U.length : Int)))) ?_ 0 (fun k _ => ?_)
    ·refine Runs.bind (P := fun r => r = P ++ V2 ++ (V1 ++ U ++ Q)) (hs.same 0 (fun k _ => by simp)) (fun r hr => ?_)
     subst hr
     have hw2 : wrap64 (((V1.length + V2.length : Nat) : Int) - (U.length : Int)) = (V1.length : Int) := by rw [wr z7_ z7_]; omega
     rw [hw2]
     refine (hgo.post (fun r hr => z144_)).same 0 (fun k _ => ?_)
     have e1 : P ++ V2 ++ (V1 ++ U ++ Q) = P ++ V2 ++ V1 ++ (U ++ Q) := by simp
     rw [e1, hV2]
    ·rw [api_Write_120.l0, if_neg z7_, if_neg z7_, hw1, hw3]
theorem rotate_run (c : Nat) (P U V Q : List Wr) (hu : U ≠ []) (hv : V ≠ []) (hl : P.length + U.length + V.length + Q.length ≤ 500000) {a m b : Int} (ha : a = (P.length : Int)) (hm : m = ((P.length + U.length : Nat) : Int)) (hb : b = ((P.length + U.length + V.length : Nat) : Int)) :
  Runs (fun k => api_Write_120.f k (P ++ U ++ V ++ Q) a m b c) (fun r => r = P ++ V ++ U ++ Q) := by
 have := rot_go c _ P U V Q (Nat.le_refl _) hu hv hl
 unfold api_Write_120.f
 have e1 : wrap64 (m - a) = (U.length : Int) := by rw [wr z7_ z7_]; omega
 have e2 : wrap64 (b - m) = (V.length : Int) := by rw [wr z7_ z7_]; omega
 rw [e1, e2, hm]
 exact this
end Go.Proofs.Ytecfndblgefhdaa.Sort
