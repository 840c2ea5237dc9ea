import Derived.Test.YtecfndblgefhdaaKsSem
set_option linter.unusedVariables false
set_option linter.unusedSimpArgs false
namespace Go.Proofs.Ytecfndblgefhdaa.Law
open Go.RowKit Go.Proofs.Ytecfndblgefhdaa.R Go.Proofs.Ytecfndblgefhdaa.Sort Go.Proofs.YtecfndblgefhdaaW.PrintWords Go.Proofs.YtecfndblgefhdaaW.PrintLast Go.Proofs.YtecfndblgefhdaaW.PrintMore
def sAt (S : List (List Vo)) (i : Int) : List Vo := S.getD i.toNat []
structure SInv (vs : List Vo) (a b : Int) (j : Nat) (S : List (List Vo)) (sets : List Se) (opn : List Wr) (fr tq : Int) : Prop where
 q : QOk sets opn fr tq
 len : (S.length : Int) = tq + 1
 rt : ∀ s ∈ S, right s = true ∧ shape s = shape vs
 st : ∀ x ∈ sets, okWs vs x.f2 ∧ sAt S x.f1 = app (sAt S x.f0) x.f2
 so : okWs vs opn ∧ sAt S tq = app (sAt S fr) opn
 la : tq - tl sets fr ≤ a
 lb : ((bytesW opn + bytesS sets : Nat) : Int) ≤ b
 jj : tq ≤ (j : Int)
 jm : j ≤ 40
 ol : opn.length ≤ 20 * j
 sl : ∀ x ∈ sets, x.f2.length ≤ 20 * j
theorem ok_bytes {vs : List Vo} : ∀ {ws : List Wr}, okWs vs ws → bytesW ws ≤ 16 * ws.length
 | [], _ => Nat.le_refl _
 | x :: r, h => by
  have h1 := (h x List.mem_cons_self).2
  have h2 := ok_bytes (fun y hy => h y (List.mem_cons_of_mem _ hy))
  rw [bytesW_cons, List.length_cons]
  omega
section
variable {vs : List Vo} {a b : Int} {j : Nat} {S : List (List Vo)} {sets : List Se} {opn : List Wr} {fr tq : Int}
theorem SInv.t0 (h : SInv vs a b j S sets opn fr tq) : 0 ≤ tl sets fr ∧ tl sets fr ≤ fr ∧ fr ≤ tq ∧ tq ≤ 40 := by
 have := chain_le h.q.ch
 have := h.q.t0
 have := h.q.ft
 have := h.jj
 have := h.jm
 omega
theorem SInv.at (h : SInv vs a b j S sets opn fr tq) {i : Int} (h0 : 0 ≤ i) (h1 : i ≤ tq) : i.toNat < S.length ∧ right (sAt S i) = true ∧ shape (sAt S i) = shape vs := by
 have hl := h.len
 have hlt : i.toNat < S.length := by omega
 have hm : sAt S i ∈ S := by
  unfold sAt
  rw [List.getD_eq_getElem?_getD, List.getElem?_eq_getElem hlt]
  exact List.getElem_mem hlt
 exact ⟨hlt, h.rt _ hm⟩
theorem SInv.init (hv : right vs = true) (hb : rightB a b = true) : SInv vs a b 0 [vs] [] [] 0 0 where
 q := ⟨rfl, Int.le_refl _, Int.le_refl _, z7_, List.Pairwise.nil, Nat.zero_le _, Nat.zero_le _, .inr rfl⟩
 len := rfl
 rt := fun s hs => by rw [List.mem_singleton.1 hs]; exact ⟨hv, rfl⟩
 st := fun x hx => by cases hx
 so := ⟨fun x hx => (by cases hx), rfl⟩
 la := by have := rightB_le hb; show (0 : Int) - 0 ≤ a; omega
 lb := by have := rightB_le hb; show (0 : Int) ≤ b; omega
 jj := Int.le_refl _
 jm := Nat.zero_le _
 ol := Nat.le_refl _
 sl := fun x hx => by cases hx
theorem SInv.next (h : SInv vs a b j S sets opn fr tq) (hj : j < 40) : SInv vs a b (j + 1) S sets opn fr tq :=
 { h with jj := by have := h.jj; omega, jm := hj, ol := by have := h.ol; omega, sl := fun x hx => by have := h.sl x hx; omega }
theorem sAt_append {i : Int} (T : List (List Vo)) (h : i.toNat < S.length) : sAt (S ++ T) i = sAt S i := by
 unfold sAt
 rw [List.getD_eq_getElem?_getD, List.getD_eq_getElem?_getD, List.getElem?_append_left h]
theorem SInv.add {ws r : List Wr} (h : SInv vs a b j S sets opn fr tq) (hj : j < 40) (ho : okWs vs ws) (hl : ws.length ≤ 20) (h1 : tq - tl sets fr < a) (h2 : (((bytesW opn + bytesS sets) + bytesW ws : Nat) : Int) ≤ b) (hf : IsFold (opn ++ ws) r) (hbr : bytesW r ≤ bytesW opn + bytesW ws) (hlr : r.length ≤ opn.length + ws.length) :
  SInv vs a b (j + 1) (S ++ [app (sAt S tq) ws]) sets r fr (tq + 1) := by
 obtain ⟨t0, t1, t2, t3⟩ := h.t0
 have hlen := h.len
 obtain ⟨p1, p2, p3⟩ := h.at (i := tq) z7_ (Int.le_refl _)
 have hol := h.ol
 have hjj := h.jj
 have how : okWs vs (opn ++ ws) := fun x hx => by
  rcases List.mem_append.1 hx with hx | hx
  ·exact h.so.1 x hx
  ·exact ho x hx
 have hor : okWs vs r := hf.ok how
 have hb1 := ok_bytes hor
 have hlast : sAt (S ++ [app (sAt S tq) ws]) (tq + 1) = app (sAt S tq) ws := by
  show (S ++ [app (sAt S tq) ws]).getD (tq + 1).toNat [] = _
  rw [List.getD_eq_getElem?_getD, show (tq + 1).toNat = S.length from z7_, List.getElem?_append_right (Nat.le_refl _), Nat.sub_self]
  rfl
 refine ⟨⟨h.q.ch, h.q.t0, z7_, z7_, hf.1, z7_, z7_, .inl z7_⟩, z148_, fun s hs => ?_, fun x hx => ?_, ⟨hor, ?_⟩, z7_, z7_, z7_, hj, z7_, fun x hx => by have := h.sl x hx; omega⟩
 ·rcases List.mem_append.1 hs with hs | hs
  ·exact h.rt s hs
  ·rw [List.mem_singleton.1 hs]
   exact ⟨right_app (okWs_shape p3.symm ho) p2, (shape_app _ _).trans p3⟩
 ·obtain ⟨x1, x2⟩ := h.st x hx
  have key : ∀ (l : List Se) (at_ : Int), chain at_ l fr → at_ ≤ fr ∧ (0 ≤ at_ → ∀ y ∈ l, 0 ≤ y.f0 ∧ y.f1 ≤ fr ∧ y.f0 ≤ y.f1) := by
   intro l
   induction l with
   | nil => intro at_ hc; have : at_ = fr := hc; exact ⟨z7_, fun _ y hy => by cases hy⟩
   | cons z t ih =>
    intro at_ hc
    obtain ⟨g1, g2, _, _, _, g3⟩ := hc
    obtain ⟨i1, i2⟩ := ih _ g3
    refine ⟨z7_, fun h0 y hy => ?_⟩
    rcases List.mem_cons.1 hy with hy | hy
    ·rw [hy]; omega
    ·exact i2 z7_ y hy
  obtain ⟨y1, y2, y3⟩ := (key sets _ h.q.ch).2 t0 x hx
  rw [sAt_append _ (h.at z7_ z7_).1, sAt_append _ (h.at z7_ z7_).1]
  exact ⟨x1, x2⟩
 ·obtain ⟨f1, f2, f3⟩ := h.at (i := fr) z7_ z7_
  rw [hlast, sAt_append _ f1, app_fold hf (okWs_shape f3.symm how) f2, app_append, ← h.so.2]
theorem tl_append {s : Se} (h : s.f0 = fr) : tl (sets ++ [s]) s.f1 = tl sets fr := by
 cases sets with
 | nil => exact h
 | cons x r => rfl
theorem SInv.cut (h : SInv vs a b j S sets opn fr tq) (hlt : fr < tq) : SInv vs a b j S (sets ++ [⟨fr, tq, opn⟩]) [] tq tq ∧ tl (sets ++ [⟨fr, tq, opn⟩]) tq = tl sets fr := by
 obtain ⟨t0, t1, t2, t3⟩ := h.t0
 have ht : tl (sets ++ [(⟨fr, tq, opn⟩ : Se)]) tq = tl sets fr := tl_append (s := ⟨fr, tq, opn⟩) rfl
 have hbs : bytesS (sets ++ [(⟨fr, tq, opn⟩ : Se)]) = bytesS sets + bytesW opn := by simp [bytesS]
 have hlb := h.lb
 refine ⟨⟨⟨?_, by rw [ht]; exact t0, Int.le_refl _, z7_, List.Pairwise.nil, Nat.zero_le _, Nat.zero_le _, .inr rfl⟩, h.len, h.rt, fun x hx => ?_, ⟨fun x hx => (by cases hx), rfl⟩, by rw [ht]; exact h.la, ?_, h.jj, h.jm, Nat.zero_le _, fun x hx => ?_⟩, ht⟩
 ·rw [ht]
  exact chain_append (s := ⟨fr, tq, opn⟩) h.q.ch rfl hlt h.q.os h.q.ol h.q.ob
 ·rcases List.mem_append.1 hx with hx | hx
  ·exact h.st x hx
  ·rw [List.mem_singleton.1 hx]; exact h.so
 ·rw [hbs]
  show ((0 + (bytesS sets + bytesW opn) : Nat) : Int) ≤ b
  omega
 ·rcases List.mem_append.1 hx with hx | hx
  ·exact h.sl x hx
  ·rw [List.mem_singleton.1 hx]; exact h.ol
theorem chain_above : ∀ {r : List Se} {at_ e : Int}, chain at_ r e → (r.filter fun s => !decide (s.f1 ≤ at_)) = r
 | [], _, _, _ => rfl
 | s :: r, at_, e, h => by
  have key : ∀ (l : List Se) (c : Int), chain c l e → at_ ≤ c → ∀ y ∈ l, at_ < y.f1 := by
   intro l
   induction l with
   | nil => intro c _ _ y hy; cases hy
   | cons z t ih =>
    intro c hc hle y hy
    obtain ⟨g1, g2, _, _, _, g3⟩ := hc
    rcases List.mem_cons.1 hy with hy | hy
    ·rw [hy]; omega
    ·exact ih _ g3 z7_ y hy
  refine List.filter_eq_self.2 (fun y hy => ?_)
  have := key (s :: r) at_ h (Int.le_refl _) y hy
  rw [decide_eq_false z7_]
  rfl
theorem SInv.done {s : Se} {rs : List Se} (h : SInv vs a b j S (s :: rs) opn fr tq) : ((s :: rs).filter fun x => !decide (x.f1 ≤ s.f1)) = rs ∧ SInv vs a b j S rs opn fr tq ∧ tl rs fr = s.f1 ∧ sAt S s.f1 = app (sAt S (tl (s :: rs) fr)) s.f2 ∧ okWs vs s.f2 := by
 obtain ⟨t0, t1, t2, t3⟩ := h.t0
 have hq := h.q
 obtain ⟨g1, g2, g3, g4, g5, g6⟩ := hq.ch
 have hle := chain_le g6
 have ht : tl rs fr = s.f1 := by
  cases rs with
  | nil => have : s.f1 = fr := g6; exact this.symm
  | cons x r => exact g6.1
 have hla := h.la
 have hlb := h.lb
 rw [bytesS_cons] at hlb
 have h0 : tl (s :: rs) fr = s.f0 := rfl
 refine ⟨?_, ⟨⟨by rw [ht]; exact g6, by rw [ht]; omega, hq.ft, hq.tm, hq.os, hq.ol, hq.ob, hq.oe⟩, h.len, h.rt, fun x hx => h.st x (List.mem_cons_of_mem _ hx), h.so, by rw [ht]; omega, z7_, h.jj, h.jm, h.ol, fun x hx => h.sl x (List.mem_cons_of_mem _ hx)⟩, ht, (h.st s List.mem_cons_self).2, (h.st s List.mem_cons_self).1⟩
 rw [List.filter_cons, if_neg (by rw [decide_eq_true (Int.le_refl _)]; decide)]
 exact chain_above g6
theorem all_sets : ∀ {sets : List Se} {at_ : Int}, chain at_ sets fr → (∀ x ∈ sets, okWs vs x.f2 ∧ sAt S x.f1 = app (sAt S x.f0) x.f2) → app (sAt S at_) (allS sets) = sAt S fr ∧ okWs vs (allS sets)
 | [], at_, hc, _ => by have : at_ = fr := hc; rw [this]; exact ⟨rfl, fun x hx => by cases hx⟩
 | s :: r, at_, hc, hs => by
  obtain ⟨g1, _, _, _, _, g3⟩ := hc
  obtain ⟨i1, i2⟩ := all_sets g3 (fun x hx => hs x (List.mem_cons_of_mem _ hx))
  obtain ⟨j1, j2⟩ := hs s List.mem_cons_self
  refine ⟨by rw [allS_cons, app_append, ← g1, ← j2, i1], ?_⟩
  rw [allS_cons]
  intro x hx
  rcases List.mem_append.1 hx with hx | hx
  ·exact j1 x hx
  ·exact i2 x hx
theorem SInv.all {w : List Wr} (h : SInv vs a b j S sets opn fr tq) (hd : Does (allS sets ++ opn) w) : app (sAt S (tl sets fr)) w = sAt S tq ∧ okWs (sAt S (tl sets fr)) w := by
 obtain ⟨t0, t1, t2, t3⟩ := h.t0
 obtain ⟨p1, p2, p3⟩ := h.at (i := tl sets fr) t0 z7_
 obtain ⟨i1, i2⟩ := all_sets (vs := vs) h.q.ch h.st
 have how : okWs (sAt S (tl sets fr)) (allS sets ++ opn) := fun x hx => okW_shape p3.symm (by
  rcases List.mem_append.1 hx with hx | hx
  ·exact i2 x hx
  ·exact h.so.1 x hx)
 exact ⟨by rw [hd.2.2 _ p2 how, app_append, i1, ← h.so.2], fun x hx => how x (hd.1 x hx)⟩
end
end Go.Proofs.Ytecfndblgefhdaa.Law
