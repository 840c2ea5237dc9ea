import Derived.Test.YtecfndblgefhdaaKzShieldP
set_option linter.unusedVariables false
set_option linter.unusedSimpArgs false
namespace Go.Proofs.Ytecfndblgefhdaa.Law
open Go.RowKit Go.Proofs.Ytecfndblgefhdaa.R Go.Proofs.Ytecfndblgefhdaa.Sort Go.Proofs.YtecfndblgefhdaaW.PrintWords Go.Proofs.YtecfndblgefhdaaW.PrintLast Go.Proofs.YtecfndblgefhdaaW.PrintMore
theorem SSrt.sub {X Y : List Wr} (h : SSrt X) (hs : Y.Sublist X) : SSrt Y := List.Pairwise.sublist hs h
theorem filter_mks {p q : Int} {X Y : List Wr} (h : mks X = mks Y) : (X.filter (isAt p q)).length = (Y.filter (isAt p q)).length := by
 induction X generalizing Y with
 | nil =>
  cases Y with
  | nil => rfl
  | cons y Y => cases h
 | cons x X ih =>
  cases Y with
  | nil => cases h
  | cons y Y =>
   simp only [mks, List.map_cons, List.cons.injEq] at h
   obtain ⟨h1, h2⟩ := h
   have e1 : x.f0 = y.f0 := congrArg S141.f0 h1
   have e2 : x.f1 = y.f1 := congrArg S141.f1 h1
   have hi := ih (Y := Y) h2
   have he : isAt p q x = isAt p q y := by unfold isAt; rw [e1, e2]
   rw [List.filter_cons, List.filter_cons, he]
   split
   ·rw [List.length_cons, List.length_cons, hi]
   ·exact hi
theorem SSrt.mks {X Y : List Wr} (h : mks X = mks Y) (hs : SSrt X) : SSrt Y := by
 have key : ∀ Z : List Wr, SSrt Z ↔ (Law.mks Z).Pairwise fun a b => a.f0 < b.f0 ∨ (a.f0 = b.f0 ∧ a.f1 < b.f1) := fun Z => by
  unfold Law.mks
  rw [List.pairwise_map]
  unfold SSrt
  constructor
  ·intro h; exact h.imp (fun h => lt_iff.1 h)
  ·intro h; exact h.imp (fun h => lt_iff.2 h)
 rw [key] at hs ⊢
 rw [← h]
 exact hs
theorem pick_last (vs : List Vo) (p q : Int) (X : List Wr) : ((pick vs (mks X)).filter (isAt p q)).getLast? = if X.filter (isAt p q) = [] then none else some ⟨p, q, (blk p q vs).getD ⟨#[]⟩⟩ := by
 have hall : ∀ w ∈ (pick vs (mks X)).filter (isAt p q), w = ⟨p, q, (blk p q vs).getD ⟨#[]⟩⟩ := fun w hw => by
  obtain ⟨h1, h2⟩ := List.mem_filter.1 hw
  obtain ⟨m, _, rfl⟩ := List.mem_map.1 h1
  obtain ⟨h3, h4⟩ := isAt_iff.1 h2
  have h3 : m.f0 = p := h3
  have h4 : m.f1 = q := h4
  unfold pick1
  rw [h3, h4]
 have hlen := filter_mks (p := p) (q := q) (X := pick vs (mks X)) (Y := X) (mks_pick vs (mks X))
 split
 ·rename_i c
  rw [c, List.length_nil] at hlen
  rw [List.eq_nil_of_length_eq_zero hlen]
  rfl
 ·rename_i c
  cases hl : ((pick vs (mks X)).filter (isAt p q)).getLast? with
  | none =>
   rw [List.getLast?_eq_none_iff] at hl
   rw [hl] at hlen
   exact absurd (List.eq_nil_of_length_eq_zero hlen.symm) c
  | some w => rw [hall w (List.mem_of_getLast? hl)]
theorem app_back {vs : List Vo} (hv : right vs = true) {X : List Wr} (ho : okWs vs X) : app (app vs X) (pick vs (mks X)) = vs := by
 have hsh : shape (app vs X) = shape vs := shape_app _ _
 have hp : okWs vs (pick vs (mks X)) := okWs_pick hv (okMs_mks ho)
 have hp2 : okWs (app vs X) (pick vs (mks X)) := okWs_shape hsh.symm hp
 have hr := right_app ho hv
 refine right_ext ((shape_app _ _).trans hsh) (right_app hp2 hr) hv (fun p q => ?_)
 rw [blk_app p q _ _ hp2, pick_last]
 split
 ·rename_i w hw
  split at hw
  ·cases hw
  ·rename_i c
   injection hw with hw
   rw [← hw]
   obtain ⟨x, hx⟩ := List.exists_mem_of_ne_nil _ c
   obtain ⟨h1, h2⟩ := List.mem_filter.1 hx
   obtain ⟨h3, h4⟩ := isAt_iff.1 h2
   have h5 := (ho x h1).1
   rw [h3, h4] at h5
   obtain ⟨s, hs⟩ := Option.isSome_iff_exists.1 h5
   show some ((blk p q vs).getD ⟨#[]⟩) = blk p q vs
   rw [hs]
   rfl
 ·rename_i hw
  split at hw
  ·rename_i c
   rw [blk_app p q _ _ ho, c]
   rfl
  ·cases hw
theorem app_parts {vs : List Vo} (hv : right vs = true) {all X Y : List Wr} (ho : okWs vs all) (hx : okWs vs X) (hf : IsFold (all ++ X) Y) : app vs (pick (app vs all) (mks Y)) = app vs all := by
 have hsh : shape (app vs all) = shape vs := shape_app _ _
 have hr := right_app ho hv
 have hax : okWs vs (all ++ X) := fun w hw => by
  rcases List.mem_append.1 hw with c | c
  ·exact ho w c
  ·exact hx w c
 have hY : okWs (app vs all) Y := okWs_shape hsh.symm (hf.ok hax)
 have hp : okWs vs (pick (app vs all) (mks Y)) := okWs_shape hsh (okWs_pick hr (okMs_mks hY))
 refine right_ext ((shape_app _ _).trans hsh.symm) (right_app hp hv) hr (fun p q => ?_)
 rw [blk_app p q _ _ hp, pick_last]
 split
 ·rename_i w hw
  split at hw
  ·cases hw
  ·rename_i c
   injection hw with hw
   rw [← hw]
   obtain ⟨x, hx⟩ := List.exists_mem_of_ne_nil _ c
   obtain ⟨h1, h2⟩ := List.mem_filter.1 hx
   obtain ⟨h3, h4⟩ := isAt_iff.1 h2
   have h5 := (hY x h1).1
   rw [h3, h4] at h5
   obtain ⟨s, hs⟩ := Option.isSome_iff_exists.1 h5
   show some ((blk p q (app vs all)).getD ⟨#[]⟩) = blk p q (app vs all)
   rw [hs]
   rfl
 ·rename_i hw
  split at hw
  ·rename_i c
   have h6 := hf.2 p q
   rw [c] at h6
   have h7 : (all ++ X).filter (isAt p q) = [] := by
    cases h8 : ((all ++ X).filter (isAt p q)).getLast? with
    | none => exact List.getLast?_eq_none_iff.1 h8
    | some w => rw [h8] at h6; cases h6
   rw [List.filter_append] at h7
   rw [blk_app p q _ _ ho, (List.append_eq_nil_iff.1 h7).1]
   rfl
  ·cases hw
end Go.Proofs.Ytecfndblgefhdaa.Law
