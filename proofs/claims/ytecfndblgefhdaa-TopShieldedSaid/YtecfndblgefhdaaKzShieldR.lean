import Derived.Test.YtecfndblgefhdaaKzShieldQ
import Derived.Test.YtecfndblgefhdaaKzDelB
set_option linter.unusedVariables false
set_option linter.unusedSimpArgs false
namespace Go.Proofs.Ytecfndblgefhdaa.Law
open Go.RowKit Go.Proofs.Ytecfndblgefhdaa.R Go.Proofs.Ytecfndblgefhdaa.Sort Go.Proofs.YtecfndblgefhdaaW.PrintWords Go.Proofs.YtecfndblgefhdaaW.PrintLast Go.Proofs.YtecfndblgefhdaaW.PrintMore
def allKeys : List Vo → List (Int × Int)
 | [] => []
 | v :: r => ((List.range v.f1.length).map fun (i : Nat) => (v.f0, (i : Int))) ++ allKeys r
theorem allKeys_length : ∀ {vs : List Vo}, (∀ v ∈ vs, v.f1.length ≤ 32) → (allKeys vs).length ≤ 32 * vs.length
 | [], _ => Nat.le_refl _
 | v :: r, h => by
  have h1 := h v List.mem_cons_self
  have h2 := allKeys_length (vs := r) (fun u hu => h u (List.mem_cons_of_mem _ hu))
  rw [allKeys, List.length_append, List.length_map, List.length_range, List.length_cons]
  omega
theorem mem_allKeys {p q : Int} : ∀ {vs : List Vo}, (blk p q vs).isSome = true → (p, q) ∈ allKeys vs
 | [], h => by cases h
 | v :: r, h => by
  rw [blk] at h
  rw [allKeys, List.mem_append]
  by_cases c : v.f0 = p
  ·rw [if_pos c] at h
   by_cases c1 : q < 0
   ·rw [if_pos c1] at h; cases h
   ·rw [if_neg c1, isSome_at] at h
    have h2 := of_decide_eq_true h
    refine .inl (List.mem_map.2 ⟨q.toNat, List.mem_range.2 h2, ?_⟩)
    rw [c, Int.toNat_of_nonneg z7_]
  ·rw [if_neg c] at h
   exact .inr (mem_allKeys h)
theorem nodup_length : ∀ {l m : List (Int × Int)}, l.Nodup → (∀ x ∈ l, x ∈ m) → l.length ≤ m.length
 | [], m, _, _ => Nat.zero_le _
 | x :: l, m, h, hs => by
  obtain ⟨h1, h2⟩ := List.nodup_cons.1 h
  have hx := hs x List.mem_cons_self
  have hi := nodup_length (l := l) (m := m.erase x) h2 (fun y hy => (List.mem_erase_of_ne (fun e : y = x => h1 (by rw [← e]; exact hy))).2 (hs y (List.mem_cons_of_mem _ hy)))
  rw [List.length_erase_of_mem hx] at hi
  have := List.length_pos_of_mem hx
  rw [List.length_cons]
  omega
theorem SSrt.length {vs : List Vo} (hv : right vs = true) {X : List Wr} (hs : SSrt X) (ho : okWs vs X) : X.length ≤ 128 := by
 have hn : (X.map fun x => (x.f0, x.f1)).Nodup := by
  unfold List.Nodup
  rw [List.pairwise_map]
  refine List.Pairwise.imp (fun h e => ?_) hs
  have h := lt_iff.1 h
  injection e with e1 e2
  omega
 have h1 := nodup_length hn (m := allKeys vs) (fun y hy => by
  obtain ⟨x, hx, rfl⟩ := List.mem_map.1 hy
  exact mem_allKeys (ho x hx).1)
 obtain ⟨r1, r2⟩ := right_small hv
 have h2 := allKeys_length r2
 rw [List.length_map] at h1
 omega
theorem pick_append (vs : List Vo) (a b : List Mk) : pick vs (a ++ b) = pick vs a ++ pick vs b := List.map_append ..
theorem mks_append (a b : List Wr) : mks (a ++ b) = mks a ++ mks b := List.map_append ..
theorem pick_now {vs : List Vo} {X Y : List Wr} (ho : okWs vs X) (hs : SSrt (X ++ Y)) : pick (app vs X) (mks Y) = pick vs (mks Y) := by
 unfold pick
 refine List.map_congr_left (fun m hm => ?_)
 obtain ⟨y, hy, rfl⟩ := List.mem_map.1 hm
 unfold pick1
 have hno : X.filter (isAt y.f0 y.f1) = [] := filter_none (fun x hx hk => by
  have h := lt_iff.1 ((List.pairwise_append.1 hs).2.2 x hx y hy)
  omega)
 show (⟨y.f0, y.f1, (blk y.f0 y.f1 (app vs X)).getD ⟨#[]⟩⟩ : Wr) = ⟨y.f0, y.f1, (blk y.f0 y.f1 vs).getD ⟨#[]⟩⟩
 rw [blk_app _ _ _ _ ho, hno]
 rfl
theorem not_named {vs : List Vo} {X Y : List Wr} (hs : SSrt (X ++ Y)) : ((mks Y).filter fun s => !(named (pick vs (mks X)) s.f0 s.f1)) = mks Y := by
 refine List.filter_eq_self.2 (fun m hm => ?_)
 obtain ⟨y, hy, rfl⟩ := List.mem_map.1 hm
 have : named (pick vs (mks X)) y.f0 y.f1 = false := by
  unfold named
  rw [List.any_eq_false]
  intro s hs2
  obtain ⟨m2, hm2, rfl⟩ := List.mem_map.1 hs2
  obtain ⟨x, hx, rfl⟩ := List.mem_map.1 hm2
  have h := lt_iff.1 ((List.pairwise_append.1 hs).2.2 x hx y hy)
  intro hd
  have hd := of_decide_eq_true hd
  have h3 : x.f0 = y.f0 := hd.1
  have h4 : x.f1 = y.f1 := hd.2
  omega
 show (!(named (pick vs (mks X)) y.f0 y.f1)) = true
 rw [this]
 rfl
theorem SSrt.pick {X : List Wr} (vs : List Vo) (hs : SSrt X) : SSrt (Law.pick vs (Law.mks X)) := SSrt.mks (mks_pick vs (Law.mks X)).symm hs
theorem merge_note {vs : List Vo} {X Y : List Wr} (hs : SSrt (X ++ Y)) (hl : X.length + Y.length ≤ 400000) : Runs (fun k => fold_Merge.f k (pick vs (mks X)) (pick vs (mks Y))) (fun r => r = pick vs (mks (X ++ Y))) := by
 have he : pick vs (mks X) ++ pick vs (mks Y) = pick vs (mks (X ++ Y)) := by rw [mks_append, pick_append]
 refine (merge_run _ _ (by rw [pick_length, pick_length, mks_length, mks_length]; exact hl)).post (fun r hr => ?_)
 rw [he] at hr
 exact IsFold.self (SSrt.pick vs hs) hr.1
end Go.Proofs.Ytecfndblgefhdaa.Law
