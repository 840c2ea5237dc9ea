import Derived.Test.YtecfndblgefhdaaKsRx6
import Derived.Test.YtecfndblgefhdaaKsVolB
set_option linter.unusedVariables false
set_option linter.unusedSimpArgs false
namespace Go.Proofs.Ytecfndblgefhdaa.Law
open Go.RowKit Go.Proofs.Ytecfndblgefhdaa.R Go.Proofs.Ytecfndblgefhdaa.Sort Go.Proofs.YtecfndblgefhdaaW.PrintWords Go.Proofs.YtecfndblgefhdaaW.PrintLast Go.Proofs.YtecfndblgefhdaaW.PrintMore
abbrev Se := S51
def chain : Int → List Se → Int → Prop
 | at_, [], e => at_ = e
 | at_, s :: r, e => s.f0 = at_ ∧ s.f0 < s.f1 ∧ SSrt s.f2 ∧ s.f2.length ≤ 1000 ∧ bytesW s.f2 ≤ 1000000000 ∧ chain s.f1 r e
def tl (sets : List Se) (fr : Int) : Int := match sets with
 | [] => fr
 | s :: _ => s.f0
structure QOk (sets : List Se) (opn : List Wr) (fr tq : Int) : Prop where
 ch : chain (tl sets fr) sets fr
 t0 : 0 ≤ tl sets fr
 ft : fr ≤ tq
 tm : tq ≤ 100
 os : SSrt opn
 ol : opn.length ≤ 1000
 ob : bytesW opn ≤ 1000000000
 oe : fr < tq ∨ opn = []
theorem chain_le : ∀ {sets : List Se} {a e : Int}, chain a sets e → a + (sets.length : Int) ≤ e
 | [], a, e, h => by have : a = e := h; simp only [List.length_nil]; omega
 | s :: r, a, e, h => by
  obtain ⟨h1, h2, _, _, _, h3⟩ := h
  have := chain_le h3
  simp only [List.length_cons]
  omega
theorem chain_append : ∀ {sets : List Se} {a e : Int} {s : Se}, chain a sets e → s.f0 = e → s.f0 < s.f1 → SSrt s.f2 → s.f2.length ≤ 1000 → bytesW s.f2 ≤ 1000000000 → chain a (sets ++ [s]) s.f1
 | [], a, e, s, h, h1, h2, h3, h4, h5 => by have : a = e := h; exact ⟨z7_, h2, h3, h4, h5, rfl⟩
 | x :: r, a, e, s, h, h1, h2, h3, h4, h5 => by
  obtain ⟨g1, g2, g3, g4, g5, g6⟩ := h
  exact ⟨g1, g2, g3, g4, g5, chain_append g6 h1 h2 h3 h4 h5⟩
theorem QOk.len {sets : List Se} {opn : List Wr} {fr tq : Int} (h : QOk sets opn fr tq) : sets.length ≤ 100 := by
 have := chain_le h.ch
 have h1 := h.t0
 have h2 := h.ft
 have h3 := h.tm
 omega
theorem rd_set (sets : List Se) {i : Nat} (c : i < sets.length) : rd_T51 sets (i : Int) = sets[i] := by
 unfold rd_T51
 rw [Int.toNat_natCast, List.getD_eq_getElem?_getD, List.getElem?_eq_getElem c]
 rfl
theorem tail_eq (sets : List Se) (opn : List Wr) (fr tq : Int) : queue_tail.f sets opn fr tq = some (tl sets fr) := by
 unfold queue_tail.f
 cases sets with
 | nil => rfl
 | cons s r =>
  rw [if_pos z28_, if_pos z28_]
  exact congrArg some (congrArg (·.f0) (rd_set (s :: r) (i := 0) (by simp)))
theorem fits_eq {n : Int} (h0 : 0 ≤ n) (h1 : n ≤ 100) : queue_fits.f n = some true := by
 unfold queue_fits.f
 rw [if_pos z7_, decide_eq_true z7_]
theorem qright_go (sets : List Se) (opn : List Wr) (fr tq : Int) (hs : SSrt opn) (hol : opn.length ≤ 1000) (h0 : 0 ≤ fr) (hft : fr ≤ tq) (htm : tq ≤ 100) (hoe : fr < tq ∨ opn = []) (hl : sets.length ≤ 100) : ∀ (m i : Nat) (a : Int), sets.length - i ≤ m → i ≤ sets.length → 0 ≤ a → chain a (sets.drop i) fr → Runs (fun k => queue_Right.l0 k a sets (sets.length : Int) (i : Int) sets opn fr tq) (fun r => r = true) := by
 have hend : ∀ (i : Nat) (a : Int), i = sets.length → chain a (sets.drop i) fr → Runs (fun k => queue_Right.l0 k a sets (sets.length : Int) (i : Int) sets opn fr tq) (fun r => r = true) := by
  intro i a hi hc
  rw [List.drop_of_length_le z7_] at hc
  have hc : a = fr := hc
  have hg := Runs.bind (G := fun _ b => if b = true then (if tq > fr then (some true) else (some ((opn.length : Int) == 0))) else (some false)) (Q := fun r => r = true) (folded_run opn hs z7_) (fun r hr => by
   subst hr
   refine Runs.now true rfl 0 (fun k _ => ?_)
   rw [if_pos rfl]
   by_cases c : tq > fr
   ·rw [if_pos c]
   ·rw [if_neg c]
    rcases hoe with h | h
    ·omega
    ·rw [h]; rfl)
  refine Runs.step hg 0 (fun k _ => ?_)
  rw [queue_Right.l0, if_neg z7_, if_pos hc.symm, fits_eq h0 z7_]
  simp only [Option.bind_some, if_true]
  rw [if_pos z7_, fits_eq z7_ htm]
  simp only [Option.bind_some, if_true]
 intro m
 induction m with
 | zero => intro i a h1 h2 _ hc; exact hend i a z7_ hc
 | succ m ih =>
  intro i a h1 h2 ha hc
  by_cases c : i < sets.length
  ·have hw : wrap64 ((i : Int) + 1) = ((i + 1 : Nat) : Int) := by unfold wrap64; omega
   rw [List.drop_eq_getElem_cons c] at hc
   obtain ⟨g1, g2, g3, g4, _, g5⟩ := hc
   have hle := chain_le g5
   have hg := Runs.bind (G := fun k b => if b = true then queue_Right.l0 k sets[i].f1 sets (sets.length : Int) ((i + 1 : Nat) : Int) sets opn fr tq else some false) (Q := fun r => r = true) (folded_run sets[i].f2 g3 z7_) (fun r hr => by
    subst hr
    exact (ih (i + 1) sets[i].f1 z7_ z7_ z7_ g5).same 0 (fun k _ => if_pos rfl))
   refine Runs.step hg 0 (fun k _ => ?_)
   rw [queue_Right.l0, if_pos z7_, if_pos z7_, if_pos z7_, rd_set sets c, fits_eq z7_ z7_]
   simp only [Option.bind_some, if_true]
   rw [if_pos g1, if_neg z7_, fits_eq z7_ z7_]
   simp only [Option.bind_some, if_true]
   rw [hw]
  ·exact hend i a z7_ hc
theorem qright_run {sets : List Se} {opn : List Wr} {fr tq : Int} (h : QOk sets opn fr tq) : Runs (fun k => queue_Right.f k sets opn fr tq) (fun r => r = true) := by
 have hle := chain_le h.ch
 have := h.t0
 refine (qright_go sets opn fr tq h.os h.ol z7_ h.ft h.tm h.oe h.len sets.length 0 (tl sets fr) z7_ z7_ h.t0 h.ch).same 0 (fun k _ => ?_)
 unfold queue_Right.f
 rw [tail_eq]
 rfl
theorem clone_same {X : List Wr} (h : X.length ≤ 1000) : api_Write_89.f X = some X := by
 unfold api_Write_89.f
 rw [if_pos z7_]
theorem chain_small : ∀ {sets : List Se} {a e : Int}, chain a sets e → ∀ s ∈ sets, s.f2.length ≤ 1000 ∧ bytesW s.f2 ≤ 1000000000
 | [], _, _, _, s, hs => by cases hs
 | x :: r, a, e, h, s, hs => by
  obtain ⟨_, _, _, h4, h5, h6⟩ := h
  rcases List.mem_cons.1 hs with hs | hs
  ·rw [hs]; exact ⟨h4, h5⟩
  ·exact chain_small h6 s hs
theorem qclone_go (sets : List Se) (opn : List Wr) (fr tq : Int) (hl : sets.length ≤ 100) (hs : ∀ s ∈ sets, s.f2.length ≤ 1000 ∧ bytesW s.f2 ≤ 1000000000) : ∀ (m i : Nat), sets.length - i ≤ m → i ≤ sets.length → Runs (fun k => queue_clone.l0 k (sets.length : Int) (i : Int) sets opn fr tq) (fun r => r = (sets, opn, fr, tq)) := by
 intro m
 induction m with
 | zero =>
  intro i h1 h2
  refine Runs.now _ rfl 1 (fun k hk => ?_)
  obtain ⟨k, rfl⟩ : ∃ q, k = q + 1 := ⟨k - 1, z7_⟩
  rw [queue_clone.l0, if_neg z7_]
 | succ m ih =>
  intro i h1 h2
  by_cases c : i < sets.length
  ·have hw : wrap64 ((i : Int) + 1) = ((i + 1 : Nat) : Int) := by unfold wrap64; omega
   refine Runs.step (ih (i + 1) z7_ z7_) 0 (fun k _ => ?_)
   rw [queue_clone.l0, if_pos z7_, if_pos z7_, if_pos z7_, rd_set sets c, clone_same (hs sets[i] (List.getElem_mem c)).1, hw]
   show queue_clone.l0 k (sets.length : Int) _ (sets.set i sets[i]) opn fr tq = _
   rw [List.set_getElem_self]
  ·refine Runs.now _ rfl 1 (fun k hk => ?_)
   obtain ⟨k, rfl⟩ : ∃ q, k = q + 1 := ⟨k - 1, z7_⟩
   rw [queue_clone.l0, if_neg z7_]
theorem qclone_run {sets : List Se} {opn : List Wr} {fr tq : Int} (h : QOk sets opn fr tq) : Runs (fun k => queue_clone.f k sets opn fr tq) (fun r => r = (sets, opn, fr, tq)) := by
 refine (qclone_go sets opn fr tq h.len (chain_small h.ch) sets.length 0 z7_ z7_).same 0 (fun k _ => ?_)
 have := h.len
 unfold queue_clone.f api_Set_88.f
 rw [if_pos z7_, clone_same h.ol]
 rfl
def bytesS (sets : List Se) : Nat := (sets.map fun s => bytesW s.f2).sum
theorem bytesS_cons (s : Se) (r : List Se) : bytesS (s :: r) = bytesW s.f2 + bytesS r := by simp [bytesS]
theorem bytesS_le : ∀ {sets : List Se}, (∀ s ∈ sets, s.f2.length ≤ 1000 ∧ bytesW s.f2 ≤ 1000000000) → bytesS sets ≤ 1000000000 * sets.length
 | [], _ => Nat.le_refl _
 | s :: r, h => by
  have h1 := (h s List.mem_cons_self).2
  have h2 := bytesS_le (fun x hx => h x (List.mem_cons_of_mem _ hx))
  rw [bytesS_cons, List.length_cons]
  omega
theorem qload_go (sets : List Se) (opn : List Wr) (fr tq : Int) (ht : 0 ≤ tl sets fr ∧ tl sets fr ≤ tq ∧ tq ≤ 100) (hl : sets.length ≤ 100) (hs : ∀ s ∈ sets, s.f2.length ≤ 1000 ∧ bytesW s.f2 ≤ 1000000000) (tot : Nat) (htot : tot ≤ 1000000000000) : ∀ (m i n : Nat), sets.length - i ≤ m → i ≤ sets.length → n + bytesS (sets.drop i) = tot → Runs (fun k => queue_Load.l0 k (n : Int) sets (sets.length : Int) (i : Int) sets opn fr tq) (fun r => r = (tq - tl sets fr, (tot : Int))) := by
 have hend : ∀ (i n : Nat), i = sets.length → n + bytesS (sets.drop i) = tot → Runs (fun k => queue_Load.l0 k (n : Int) sets (sets.length : Int) (i : Int) sets opn fr tq) (fun r => r = (tq - tl sets fr, (tot : Int))) := by
  intro i n hi hn
  rw [List.drop_of_length_le z7_] at hn
  refine Runs.now (tq - tl sets fr, (tot : Int)) rfl 1 (fun k hk => ?_)
  obtain ⟨k, rfl⟩ : ∃ q, k = q + 1 := ⟨k - 1, z7_⟩
  rw [queue_Load.l0, if_neg z7_, tail_eq]
  show some (wrap64 (tq - tl sets fr), (n : Int)) = _
  rw [wr z7_ z7_, ← hn]
  rfl
 intro m
 induction m with
 | zero => intro i n h1 h2 hn; exact hend i n z7_ hn
 | succ m ih =>
  intro i n h1 h2 hn
  by_cases c : i < sets.length
  ·rw [List.drop_eq_getElem_cons c, bytesS_cons] at hn
   obtain ⟨q1, q2⟩ := hs sets[i] (List.getElem_mem c)
   have hih := ih (i + 1) (n + bytesW sets[i].f2) z7_ z7_ z7_
   have hw2 : wrap64 ((n : Int) + (bytesW sets[i].f2 : Int)) = ((n + bytesW sets[i].f2 : Nat) : Int) := by
    have h7 : n + bytesW sets[i].f2 ≤ 1000000000000 := by omega
    clear hih ih hn hs ht
    unfold wrap64
    omega
   have hg := Runs.bind (G := fun k t => queue_Load.l0 k (wrap64 ((n : Int) + t)) sets (sets.length : Int) ((i + 1 : Nat) : Int) sets opn fr tq) (Q := fun r => r = (tq - tl sets fr, (tot : Int))) (bytes_run sets[i].f2 (by clear hw2; omega) (by clear hw2; omega)) (fun r hr => by
    subst hr
    rw [hw2]
    exact hih)
   clear hw2 hih
   have p1 : (i : Int) < (sets.length : Int) := by omega
   have p2 : (0 : Int) ≤ (i : Int) := by omega
   have hw : wrap64 ((i : Int) + 1) = ((i + 1 : Nat) : Int) := by unfold wrap64; omega
   refine Runs.step hg 0 (fun k _ => ?_)
   rw [queue_Load.l0, if_pos p1, if_pos p2, if_pos p1, rd_set sets c, hw]
  ·exact hend i n z7_ hn
theorem qload_run {sets : List Se} {opn : List Wr} {fr tq : Int} (h : QOk sets opn fr tq) : Runs (fun k => queue_Load.f k sets opn fr tq) (fun r => r = (tq - tl sets fr, ((bytesW opn + bytesS sets : Nat) : Int))) := by
 have hle := chain_le h.ch
 have h0 := h.t0
 have h1 := h.ft
 have h2 := h.tm
 have h3 := bytesS_le (chain_small h.ch)
 have h4 := h.len
 have h5 := h.ob
 refine Runs.bind (G := fun k b => if b = true then ((fold_Bytes.f k opn).bind fun t148 => (queue_Load.l0 k t148 sets (sets.length : Int) 0 sets opn fr tq)) else (some (0, 0))) (qright_run h) (fun r hr => ?_)
 subst hr
 refine (Runs.bind (G := fun k t148 => queue_Load.l0 k t148 sets (sets.length : Int) 0 sets opn fr tq) (Q := fun r => r = (tq - tl sets fr, ((bytesW opn + bytesS sets : Nat) : Int))) (bytes_run opn (by have := h.ol; omega) z7_) (fun r hr => ?_)).same 0 (fun k _ => if_pos rfl)
 subst hr
 exact qload_go sets opn fr tq ⟨h0, z7_, h2⟩ h4 (chain_small h.ch) _ z7_ sets.length 0 (bytesW opn) z7_ z7_ (by simp)
def allS (sets : List Se) : List Wr := sets.flatMap (·.f2)
theorem allS_cons (s : Se) (r : List Se) : allS (s :: r) = s.f2 ++ allS r := by simp [allS]
def Does (X r : List Wr) : Prop := (∀ w ∈ r, w ∈ X) ∧ r.length ≤ X.length ∧ ∀ vs, right vs = true → okWs vs X → app vs r = app vs X
theorem Does.fold {X r : List Wr} (h : IsFold X r) (hl : r.length ≤ X.length) : Does X r := ⟨fun w hw => h.mem hw, hl, fun vs hv ho => app_fold h ho hv⟩
theorem Does.append {X r Y : List Wr} (h : Does X r) : Does (X ++ Y) (r ++ Y) := by
 refine ⟨fun w hw => ?_, by rw [List.length_append, List.length_append]; have := h.2.1; omega, fun vs hv ho => ?_⟩
 ·rcases List.mem_append.1 hw with h1 | h1
  ·exact List.mem_append_left _ (h.1 w h1)
  ·exact List.mem_append_right _ h1
 ·rw [app_append, app_append, h.2.2 vs hv (fun w hw => ho w (List.mem_append_left _ hw))]
theorem Does.trans {X Y Z : List Wr} (h : Does X Y) (h2 : Does Y Z) : Does X Z :=
 ⟨fun w hw => h.1 w (h2.1 w hw), Nat.le_trans h2.2.1 h.2.1, fun vs hv ho => (h2.2.2 vs hv (fun w hw => ho w (h.1 w hw))).trans (h.2.2 vs hv ho)⟩
theorem qall_go (sets : List Se) (opn : List Wr) (fr tq : Int) (hl : sets.length ≤ 100) (hol : opn.length ≤ 1000) (hs : ∀ s ∈ sets, s.f2.length ≤ 1000 ∧ bytesW s.f2 ≤ 1000000000) : ∀ (m i : Nat) (P out : List Wr), sets.length - i ≤ m → i ≤ sets.length → P.length ≤ 1000 * i → Does P out → Runs (fun k => queue_All.l0 k out sets (sets.length : Int) (i : Int) sets opn fr tq) (fun r => Does (P ++ allS (sets.drop i) ++ opn) r) := by
 have hend : ∀ (i : Nat) (P out : List Wr), i = sets.length → P.length ≤ 1000 * i → Does P out → Runs (fun k => queue_All.l0 k out sets (sets.length : Int) (i : Int) sets opn fr tq) (fun r => Does (P ++ allS (sets.drop i) ++ opn) r) := by
  intro i P out hi hp hd
  have h1 := hd.2.1
  have hg := (merge_run out opn z7_).post (Q := fun r => Does (P ++ allS (sets.drop i) ++ opn) r) (fun r hr => by
   rw [List.drop_of_length_le z7_, show allS [] = [] from rfl, List.append_nil]
   exact Does.trans hd.append (Does.fold hr.1 (by rw [List.length_append]; exact hr.2.2)))
  refine Runs.step hg 0 (fun k _ => ?_)
  rw [queue_All.l0, if_neg z7_]
  cases fold_Merge.f k out opn <;> rfl
 intro m
 induction m with
 | zero => intro i P out h1 h2 hp hd; exact hend i P out z7_ hp hd
 | succ m ih =>
  intro i P out h1 h2 hp hd
  by_cases c : i < sets.length
  ·have hw : wrap64 ((i : Int) + 1) = ((i + 1 : Nat) : Int) := by unfold wrap64; omega
   obtain ⟨q1, q2⟩ := hs sets[i] (List.getElem_mem c)
   have h3 := hd.2.1
   have hg := Runs.bind (G := fun k t => queue_All.l0 k t sets (sets.length : Int) ((i + 1 : Nat) : Int) sets opn fr tq) (Q := fun r => Does (P ++ allS (sets.drop i) ++ opn) r) (merge_run out sets[i].f2 z7_) (fun r hr => by
    have hd2 : Does (P ++ sets[i].f2) r := Does.trans hd.append (Does.fold hr.1 (by rw [List.length_append]; exact hr.2.2))
    refine (ih (i + 1) (P ++ sets[i].f2) r z7_ z7_ z139_ hd2).post (fun r2 hr2 => ?_)
    rw [List.drop_eq_getElem_cons c, allS_cons, ← List.append_assoc P]
    exact hr2)
   refine Runs.step hg 0 (fun k _ => ?_)
   rw [queue_All.l0, if_pos z7_, if_pos z7_, if_pos z7_, rd_set sets c, hw]
  ·exact hend i P out z7_ hp hd
theorem qall_run {sets : List Se} {opn : List Wr} {fr tq : Int} (h : QOk sets opn fr tq) : Runs (fun k => queue_All.f k sets opn fr tq) (fun r => Does (allS sets ++ opn) r) := by
 refine Runs.bind (G := fun k b => if b = true then (queue_All.l0 k ([] : List Wr) sets (sets.length : Int) 0 sets opn fr tq) else (some [])) (qright_run h) (fun r hr => ?_)
 subst hr
 exact (qall_go sets opn fr tq h.len h.ol (chain_small h.ch) sets.length 0 [] [] z7_ z7_ (by simp) ⟨fun w hw => hw, Nat.le_refl _, fun vs _ _ => rfl⟩).same 0 (fun k _ => if_pos rfl)
def rightB (a b : Int) : Bool := if mn a b ≥ 1 then decide (mx a b ≤ 1099511627776) else false
theorem rightB_eq (a b : Int) (c : Bool) : lag_Right.f a b c = some (rightB a b) := by
 unfold lag_Right.f rightB
 split <;> rfl
theorem rightB_le {a b : Int} (h : rightB a b = true) : 1 ≤ a ∧ 1 ≤ b ∧ a ≤ 1099511627776 ∧ b ≤ 1099511627776 := by
 unfold rightB at h
 by_cases c : mn a b ≥ 1
 ·rw [if_pos c] at h
  have h := of_decide_eq_true h
  unfold mn at c
  unfold mx at h
  by_cases c1 : b < a
  ·rw [if_pos c1] at c; rw [if_neg z7_] at h; omega
  ·rw [if_neg c1] at c
   by_cases c2 : a < b
   ·rw [if_pos c2] at h; omega
   ·rw [if_neg c2] at h; omega
 ·rw [if_neg c] at h; cases h
theorem judge_run {sets : List Se} {opn : List Wr} {fr tq : Int} (h : QOk sets opn fr tq) {a b : Int} (hb : rightB a b = true) (c : Bool) {ws : List Wr} (hl : ws.length ≤ 1000) (hw : bytesW ws ≤ 1000000000) :
  Runs (fun k => lag_Judge.f k a b c sets opn fr tq ws) (fun r => r = 1 ↔ tq - tl sets fr < a ∧ (((bytesW opn + bytesS sets) + bytesW ws : Nat) : Int) ≤ b) := by
 have h3 := bytesS_le (chain_small h.ch)
 have h4 := h.len
 have h5 := h.ob
 have hj1 : ∀ t : Bool, Runs (fun k => lag_Judge.j1 k t a b c) (fun r => r = 1 ↔ t = true) := fun t => by
  cases t with
  | true =>
   refine Runs.now 1 (by simp) 1 (fun k hk => ?_)
   obtain ⟨k, rfl⟩ : ∃ q, k = q + 1 := ⟨k - 1, z7_⟩
   rw [lag_Judge.j1, if_pos rfl]
  | false =>
   refine Runs.now (if c = true then 2 else 3) (by cases c <;> simp) 1 (fun k hk => ?_)
   obtain ⟨k, rfl⟩ : ∃ q, k = q + 1 := ⟨k - 1, z7_⟩
   rw [lag_Judge.j1, if_neg z8_]
   cases c <;> rfl
 have hj0 : Runs (fun k => lag_Judge.j0 k ws false a b c sets opn fr tq) (fun r => r = 1 ↔ tq - tl sets fr < a ∧ (((bytesW opn + bytesS sets) + bytesW ws : Nat) : Int) ≤ b) := by
  refine Runs.step (F := fun k => (queue_Load.f k sets opn fr tq).bind fun bt157 => (if bt157.1 < a then ((fold_Bytes.f k ws).bind fun t159 => (lag_Judge.j1 k (decide ((wrap64 (bt157.2 + t159)) ≤ b)) a b c)) else (lag_Judge.j1 k false a b c))) (Runs.bind (qload_run h) (fun r hr => ?_)) 0 (fun k _ => by rw [lag_Judge.j0, if_neg z8_])
  subst hr
  by_cases ca : tq - tl sets fr < a
  ·refine (Runs.bind (G := fun k t159 => lag_Judge.j1 k (decide ((wrap64 ((((bytesW opn + bytesS sets : Nat) : Int)) + t159)) ≤ b)) a b c) (Q := fun r => r = 1 ↔ tq - tl sets fr < a ∧ (((bytesW opn + bytesS sets) + bytesW ws : Nat) : Int) ≤ b) (bytes_run ws z7_ z7_) (fun r hr => ?_)).same 0 (fun k _ => if_pos ca)
   subst hr
   have hw2 : wrap64 (((bytesW opn + bytesS sets : Nat) : Int) + (bytesW ws : Int)) = (((bytesW opn + bytesS sets) + bytesW ws : Nat) : Int) := by unfold wrap64; omega
   rw [hw2]
   exact (hj1 _).post (fun r hr => by rw [hr, decide_eq_true_iff]; exact ⟨fun h => ⟨ca, h⟩, fun h => h.2⟩)
  ·exact ((hj1 false).post (fun r hr => by rw [hr]; exact ⟨fun h => z150_, fun h => absurd h.1 ca⟩)).same 0 (fun k _ => if_neg ca)
 refine Runs.same (F := fun k => (queue_Right.f k sets opn fr tq).bind fun t156 => (lag_Judge.j0 k ws (!t156) a b c sets opn fr tq)) (Runs.bind (qright_run h) (fun r hr => ?_)) 0 (fun k _ => ?_)
 ·subst hr
  exact hj0
 ·unfold lag_Judge.f
  rw [rightB_eq, hb]
  rfl
end Go.Proofs.Ytecfndblgefhdaa.Law
