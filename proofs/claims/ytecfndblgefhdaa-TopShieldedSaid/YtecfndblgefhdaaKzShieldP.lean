import Derived.Test.YtecfndblgefhdaaKzVolB
set_option linter.unusedVariables false
set_option linter.unusedSimpArgs false
namespace Go.Proofs.Ytecfndblgefhdaa.Law
open Go.RowKit Go.Proofs.Ytecfndblgefhdaa.R Go.Proofs.Ytecfndblgefhdaa.Sort Go.Proofs.YtecfndblgefhdaaW.PrintWords Go.Proofs.YtecfndblgefhdaaW.PrintLast Go.Proofs.YtecfndblgefhdaaW.PrintMore
abbrev Mk := S141
def mks (X : List Wr) : List Mk := X.map fun x => ⟨x.f0, x.f1⟩
def pick1 (vs : List Vo) (m : Mk) : Wr := ⟨m.f0, m.f1, (blk m.f0 m.f1 vs).getD ⟨#[]⟩⟩
def pick (vs : List Vo) (ms : List Mk) : List Wr := ms.map (pick1 vs)
def okMs (vs : List Vo) (ms : List Mk) : Prop := ∀ m ∈ ms, (blk m.f0 m.f1 vs).isSome = true
theorem mks_length (X : List Wr) : (mks X).length = X.length := List.length_map ..
theorem pick_length (vs : List Vo) (ms : List Mk) : (pick vs ms).length = ms.length := List.length_map ..
theorem mks_pick (vs : List Vo) (ms : List Mk) : mks (pick vs ms) = ms := by
 unfold mks pick
 rw [List.map_map]
 exact List.map_id ms
theorem okMs_mks {vs : List Vo} {X : List Wr} (h : okWs vs X) : okMs vs (mks X) := fun m hm => by
 obtain ⟨x, hx, rfl⟩ := List.mem_map.1 hm
 exact (h x hx).1
theorem blk_size {last p q : Int} {s : ByteArray} : ∀ {vs : List Vo} {last : Int}, rightFrom last vs = true → blk p q vs = some s → s.size ≤ 8
 | [], _, _, h => by cases h
 | v :: r, last, hr, h => by
  obtain ⟨_, _, _, _, h5, h6⟩ := rightFrom_cons hr
  rw [blk] at h
  by_cases c : v.f0 = p
  ·rw [if_pos c] at h
   by_cases c1 : q < 0
   ·rw [if_pos c1] at h; cases h
   ·rw [if_neg c1] at h
    exact h5 s (List.mem_of_getElem? h)
  ·rw [if_neg c] at h
   exact blk_size (last := last) h6 h
theorem okWs_pick {vs : List Vo} {ms : List Mk} (hv : right vs = true) (h : okMs vs ms) : okWs vs (pick vs ms) := fun x hx => by
 obtain ⟨m, hm, rfl⟩ := List.mem_map.1 hx
 refine ⟨h m hm, ?_⟩
 unfold right at hv
 rw [Bool.and_eq_true] at hv
 obtain ⟨s, hs⟩ := Option.isSome_iff_exists.1 (h m hm)
 show ((blk m.f0 m.f1 vs).getD ⟨#[]⟩).size ≤ 8
 rw [hs]
 exact blk_size (last := 0) (p := m.f0) (q := m.f1) hv.1 hs
theorem lt_irrefl (a : Wr) : lt a a = false := by rw [nlt_iff]; omega
theorem SSrt.unique : ∀ {X Y : List Wr}, SSrt X → SSrt Y → (∀ x, x ∈ X ↔ x ∈ Y) → X = Y
 | [], [], _, _, _ => rfl
 | [], y :: Y, _, _, h => absurd ((h y).2 List.mem_cons_self) (by simp)
 | x :: X, [], _, _, h => absurd ((h x).1 List.mem_cons_self) (by simp)
 | x :: X, y :: Y, h1, h2, h => by
  obtain ⟨a1, a2⟩ := List.pairwise_cons.1 h1
  obtain ⟨b1, b2⟩ := List.pairwise_cons.1 h2
  have hxy : x = y := by
   rcases List.mem_cons.1 ((h x).1 List.mem_cons_self) with c | c
   ·exact c
   ·rcases List.mem_cons.1 ((h y).2 List.mem_cons_self) with d | d
    ·exact d.symm
    ·have e1 := b1 x c
     have e2 := a1 y d
     rw [lt_nlt e1] at e2
     cases e2
  subst hxy
  rw [SSrt.unique a2 b2 (fun z => ⟨fun hz => ?_, fun hz => ?_⟩)]
  ·rcases List.mem_cons.1 ((h z).1 (List.mem_cons_of_mem _ hz)) with c | c
   ·have := a1 z hz
    rw [c, lt_irrefl] at this
    cases this
   ·exact c
  ·rcases List.mem_cons.1 ((h z).2 (List.mem_cons_of_mem _ hz)) with c | c
   ·have := b1 z hz
    rw [c, lt_irrefl] at this
    cases this
   ·exact c
theorem SSrt.filter : ∀ {X : List Wr}, SSrt X → ∀ {x : Wr}, x ∈ X → X.filter (isAt x.f0 x.f1) = [x]
 | [], _, x, hx => by cases hx
 | y :: Y, h, x, hx => by
  obtain ⟨a1, a2⟩ := List.pairwise_cons.1 h
  rcases List.mem_cons.1 hx with c | c
  ·subst c
   rw [List.filter_cons, if_pos (isAt_iff.2 ⟨rfl, rfl⟩), filter_none (fun z hz hk => by have := lt_iff.1 (a1 z hz); omega)]
  ·rw [List.filter_cons, if_neg (fun hk => by have h3 := lt_iff.1 (a1 x c); have h4 := isAt_iff.1 hk; omega)]
   exact SSrt.filter a2 c
theorem IsFold.self {X r : List Wr} (hs : SSrt X) (h : IsFold X r) : r = X := by
 refine SSrt.unique h.1 hs (fun x => ⟨fun hx => h.mem hx, fun hx => ?_⟩)
 have h2 := h.2 x.f0 x.f1
 rw [SSrt.filter hs hx] at h2
 have h3 : x ∈ r.filter (isAt x.f0 x.f1) := by rw [h2]; exact List.mem_singleton.2 rfl
 exact (List.mem_filter.1 h3).1
theorem marks_go (Y : List Wr) (hl : Y.length ≤ 400000) (n : Int) (hn : n = (Y.length : Int)) : ∀ (m i : Nat), Y.length - i ≤ m → i ≤ Y.length → Runs (fun k => fold_Marks.l0 k (mks (Y.take i)) Y n (i : Int)) (fun r => r = mks Y) := by
 intro m
 induction m with
 | zero =>
  intro i h1 h2
  refine Runs.now (mks (Y.take i)) z152_ 1 (fun k hk => ?_)
  obtain ⟨k, rfl⟩ : ∃ q, k = q + 1 := ⟨k - 1, z7_⟩
  rw [fold_Marks.l0, if_neg z7_]
 | succ m ih =>
  intro i h1 h2
  by_cases c : i < Y.length
  ·have hw : wrap64 ((i : Int) + 1) = ((i + 1 : Nat) : Int) := by rw [wr z7_ z7_]; omega
   have e1 : rd_T120 Y (i : Int) = Y[i] := by
    unfold rd_T120
    rw [Int.toNat_natCast, List.getD_eq_getElem?_getD, List.getElem?_eq_getElem c]
    rfl
   refine Runs.step (ih (i + 1) z7_ z7_) 0 (fun k hk => ?_)
   have hlt : (mks (Y.take i)).length < 8796093022208 := by rw [mks_length, List.length_take]; omega
   rw [fold_Marks.l0, if_pos z7_, if_pos z7_, if_pos z7_, if_pos hlt, hw, e1]
   congr 1
   unfold mks
   rw [List.take_add_one, List.getElem?_eq_getElem c, List.map_append]
   rfl
  ·refine Runs.now (mks (Y.take i)) z152_ 1 (fun k hk => ?_)
   obtain ⟨k, rfl⟩ : ∃ q, k = q + 1 := ⟨k - 1, z7_⟩
   rw [fold_Marks.l0, if_neg z7_]
theorem marks_run (X : List Wr) (hl : X.length ≤ 400000) : Runs (fun k => fold_Marks.f k X) (fun r => ∃ Y, IsFold X Y ∧ Y.length ≤ X.length ∧ r = mks Y) :=
 Runs.bind (G := fun k t => fold_Marks.l0 k ([] : List Mk) t (t.length : Int) 0) (fold_run X hl) (fun Y hY => (marks_go Y (by have := hY.2.2; omega) _ rfl Y.length 0 z7_ z7_).post (fun r hr => ⟨Y, hY.1, hY.2.2, hr⟩))
theorem marks_self {X : List Wr} (hs : SSrt X) (hl : X.length ≤ 400000) : Runs (fun k => fold_Marks.f k X) (fun r => r = mks X) :=
 (marks_run X hl).post (fun r ⟨Y, h1, _, h2⟩ => by rw [h2, IsFold.self hs h1])
theorem get_bad {vs : List Vo} {p q : Int} (h : blk p q vs = none) : (vols_Get.go vs p q).2 ≠ 0 := by
 unfold vols_Get.go
 cases hj : vols_at.go p q vs 0 with
 | error c => exact vols_at.go_ne hj
 | ok j =>
  have := at_blk hj
  rw [h] at this
  cases this
theorem pick_go {vs : List Vo} (hv : right vs = true) (ms : List Mk) (hl : ms.length ≤ 400000) (n : Int) (hn : n = (ms.length : Int)) : ∀ (m i : Nat), ms.length - i ≤ m → i ≤ ms.length → Runs (fun k => fold_Pick.l0 k vs (pick vs (ms.take i)) ms n (i : Int)) (fun r => okMs vs (ms.drop i) ∧ r = (pick vs ms, 0) ∨ ¬ okMs vs (ms.drop i) ∧ r.1 = [] ∧ r.2 ≠ 0) := by
 intro m
 induction m with
 | zero =>
  intro i h1 h2
  refine Runs.now (pick vs (ms.take i), 0) (.inl ⟨fun m hm => z153_, z152_⟩) 1 (fun k hk => ?_)
  obtain ⟨k, rfl⟩ : ∃ q, k = q + 1 := ⟨k - 1, z7_⟩
  rw [fold_Pick.l0, if_neg z7_]
 | succ m ih =>
  intro i h1 h2
  by_cases c : i < ms.length
  ·have hw : wrap64 ((i : Int) + 1) = ((i + 1 : Nat) : Int) := by rw [wr z7_ z7_]; omega
   have e1 : rd_T141 ms (i : Int) = ms[i] := by
    unfold rd_T141
    rw [Int.toNat_natCast, List.getD_eq_getElem?_getD, List.getElem?_eq_getElem c]
    rfl
   have hd : ms.drop i = ms[i] :: ms.drop (i + 1) := List.drop_eq_getElem_cons c
   have hget : Runs (fun k => vols_Get.f k vs ms[i].f0 ms[i].f1) (fun r => r = vols_Get.go vs ms[i].f0 ms[i].f1) :=
    Runs.bind (G := fun _ b => some (if b = true then vols_Get.go vs ms[i].f0 ms[i].f1 else (⟨#[]⟩, 1))) (right_true hv) (fun r hr => Runs.now (vols_Get.go vs ms[i].f0 ms[i].f1) rfl 0 (fun k _ => by rw [hr]; rfl))
   have hlt : (pick vs (ms.take i)).length < 4398046511104 := by rw [pick_length, List.length_take]; omega
   cases hb : blk ms[i].f0 ms[i].f1 vs with
   | none =>
    have hbad := get_bad hb
    have hno : ¬ okMs vs (ms.drop i) := fun ho => by
     have := ho ms[i] (by rw [hd]; exact List.mem_cons_self)
     rw [hb] at this
     cases this
    refine Runs.step (F := fun k => (vols_Get.f k vs ms[i].f0 ms[i].f1).bind fun bt => (if bt.2 = 0 then fold_Pick.l0 k vs (pick vs (ms.take i) ++ [⟨ms[i].f0, ms[i].f1, bt.1⟩]) ms n ((i + 1 : Nat) : Int) else some ([], bt.2))) (Runs.bind (G := fun k bt => (if bt.2 = 0 then fold_Pick.l0 k vs (pick vs (ms.take i) ++ [⟨ms[i].f0, ms[i].f1, bt.1⟩]) ms n ((i + 1 : Nat) : Int) else some ([], bt.2))) hget (fun r hr => ?_)) 0 (fun k _ => ?_)
    ·exact Runs.now ([], r.2) (.inr ⟨hno, rfl, by rw [hr]; exact hbad⟩) 0 (fun k _ => if_neg (by rw [hr]; exact hbad))
    rw [fold_Pick.l0, if_pos z7_, if_pos z7_, if_pos z7_, e1, hw]
    cases vols_Get.f k vs ms[i].f0 ms[i].f1 with
    | none => rfl
    | some bt =>
     simp only [Option.bind_some]
     split
     ·first | rfl | rw [if_pos hlt]
     ·rfl
   | some s =>
    refine Runs.step (F := fun k => (vols_Get.f k vs ms[i].f0 ms[i].f1).bind fun bt => if bt.2 = 0 then fold_Pick.l0 k vs (pick vs (ms.take i) ++ [⟨ms[i].f0, ms[i].f1, bt.1⟩]) ms n ((i + 1 : Nat) : Int) else some ([], bt.2)) (Runs.bind (G := fun k bt => if bt.2 = 0 then fold_Pick.l0 k vs (pick vs (ms.take i) ++ [⟨ms[i].f0, ms[i].f1, bt.1⟩]) ms n ((i + 1 : Nat) : Int) else some ([], bt.2)) (get_run hv hb) (fun r hr => ?_)) 0 (fun k _ => ?_)
    ·have he : pick vs (ms.take i) ++ [⟨ms[i].f0, ms[i].f1, r.1⟩] = pick vs (ms.take (i + 1)) := by
      unfold pick
      rw [List.take_add_one, List.getElem?_eq_getElem c, List.map_append, hr]
      show _ = _ ++ [pick1 vs ms[i]]
      unfold pick1
      rw [hb]
      rfl
     refine ((ih (i + 1) z7_ z7_).same 0 (fun k _ => ?_)).post (fun r2 hr2 => ?_)
     ·rw [if_pos (by rw [hr]), he]
     ·have hcons : okMs vs (ms.drop i) ↔ okMs vs (ms.drop (i + 1)) := by
       rw [hd]
       refine ⟨fun h m hm => h m (List.mem_cons_of_mem _ hm), fun h m hm => ?_⟩
       rcases List.mem_cons.1 hm with c2 | c2
       ·rw [c2, hb]; rfl
       ·exact h m c2
      rcases hr2 with ⟨q1, q2⟩ | ⟨q1, q2⟩
      ·exact .inl ⟨hcons.2 q1, q2⟩
      ·exact .inr ⟨fun h => q1 (hcons.1 h), q2⟩
    ·rw [fold_Pick.l0, if_pos z7_, if_pos z7_, if_pos z7_, e1, hw]
     cases vols_Get.f k vs ms[i].f0 ms[i].f1 with
     | none => rfl
     | some bt =>
      simp only [Option.bind_some]
      split
      ·first | rfl | rw [if_pos hlt]
      ·rfl
  ·refine Runs.now (pick vs (ms.take i), 0) (.inl ⟨fun m hm => z153_, z152_⟩) 1 (fun k hk => ?_)
   obtain ⟨k, rfl⟩ : ∃ q, k = q + 1 := ⟨k - 1, z7_⟩
   rw [fold_Pick.l0, if_neg z7_]
theorem pick_any {vs : List Vo} (hv : right vs = true) (ms : List Mk) (hl : ms.length ≤ 400000) : Runs (fun k => fold_Pick.f k vs ms) (fun r => okMs vs ms ∧ r = (pick vs ms, 0) ∨ ¬ okMs vs ms ∧ r.1 = [] ∧ r.2 ≠ 0) := by
 refine Runs.bind (G := fun k t => if t = true then fold_Pick.l0 k vs ([] : List Wr) ms (ms.length : Int) 0 else some (([] : List Wr), 1)) (right_true hv) (fun t ht => ?_)
 refine (pick_go hv ms hl _ rfl ms.length 0 z7_ z7_).same 0 (fun k _ => ?_)
 rw [if_pos ht]
 rfl
theorem pick_run {vs : List Vo} (hv : right vs = true) {ms : List Mk} (hl : ms.length ≤ 400000) (ho : okMs vs ms) : Runs (fun k => fold_Pick.f k vs ms) (fun r => r = (pick vs ms, 0)) :=
 (pick_any hv ms hl).post (fun r hr => by rcases hr with h | h; exact h.2; exact absurd ho h.1)
theorem sright_run {vs : List Vo} (hv : right vs = true) {X : List Wr} (ho : okWs vs X) (hs : SSrt X) (hl : X.length ≤ 400000) : Runs (fun k => snap_Right.f k X vs) (fun r => r = true) := by
 refine Runs.bind (G := fun k t => if t = 0 then ((fold_Folded.f k X).bind fun t2 => some t2) else some false) (check_run hv X) (fun t ht => ?_)
 refine (folded_run X hs hl).same 0 (fun k _ => ?_)
 rw [if_pos (ht.trans (check_ok ho))]
 cases fold_Folded.f k X <;> rfl
theorem back_run {vs : List Vo} (hv : right vs = true) {X : List Wr} (ho : okWs vs X) (hs : SSrt X) (hl : X.length ≤ 400000) : Runs (fun k => snap_Back.f k X vs) (fun r => r = (app vs X, 0)) := by
 refine Runs.bind (G := fun k t => if t = true then ((vols_Apply.f k vs X).bind fun bt => some (bt.1, bt.2)) else some (([] : List Vo), 1)) (sright_run hv ho hs hl) (fun t ht => ?_)
 refine (apply_run hv ho).same 0 (fun k _ => ?_)
 rw [if_pos ht]
 cases vols_Apply.f k vs X <;> rfl
end Go.Proofs.Ytecfndblgefhdaa.Law
