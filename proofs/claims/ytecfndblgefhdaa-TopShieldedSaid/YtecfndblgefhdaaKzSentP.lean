import Derived.Test.YtecfndblgefhdaaKzSem
set_option linter.unusedVariables false
set_option linter.unusedSimpArgs false
namespace Go.Proofs.Ytecfndblgefhdaa.Law
open Go.RowKit Go.Proofs.Ytecfndblgefhdaa.R Go.Proofs.Ytecfndblgefhdaa.Sort Go.Proofs.YtecfndblgefhdaaW.PrintWords Go.Proofs.YtecfndblgefhdaaW.PrintLast Go.Proofs.YtecfndblgefhdaaW.PrintMore
def sAt (S : List (List Vo)) (i : Int) : List Vo := S.getD i.toNat []
structure SInv (vs : List Vo) (a b : Int) (j : Nat) (S : List (List Vo)) (sets : List Se) (opn : List Wr) (fr tq : Int) : Prop where
 q : QOk sets opn fr tq
 len : (S.length : Int) = tq + 1
 rt : ∀ s ∈ S, right s = true ∧ shape s = shape vs
 st : ∀ x ∈ sets, okWs vs x.f2 ∧ sAt S x.f1 = app (sAt S x.f0) x.f2
 so : okWs vs opn ∧ sAt S tq = app (sAt S fr) opn
 la : tq - tl sets fr ≤ a
 lb : ((bytesW opn + bytesS sets : Nat) : Int) ≤ b
 jj : tq ≤ (j : Int)
 jm : j ≤ 40
 ol : opn.length ≤ 20 * j
 sl : ∀ x ∈ sets, x.f2.length ≤ 20 * j
theorem ok_bytes {vs : List Vo} : ∀ {ws : List Wr}, okWs vs ws → bytesW ws ≤ 16 * ws.length
 | [], _ => Nat.le_refl _
 | x :: r, h => by
  have h1 := (h x List.mem_cons_self).2
  have h2 := ok_bytes (fun y hy => h y (List.mem_cons_of_mem _ hy))
  rw [bytesW_cons, List.length_cons]
  omega
section
variable {vs : List Vo} {a b : Int} {j : Nat} {S : List (List Vo)} {sets : List Se} {opn : List Wr} {fr tq : Int}
theorem SInv.t0 (h : SInv vs a b j S sets opn fr tq) : 0 ≤ tl sets fr ∧ tl sets fr ≤ fr ∧ fr ≤ tq ∧ tq ≤ 40 := by
 have := chain_le h.q.ch
 have := h.q.t0
 have := h.q.ft
 have := h.jj
 have := h.jm
 omega
theorem SInv.at (h : SInv vs a b j S sets opn fr tq) {i : Int} (h0 : 0 ≤ i) (h1 : i ≤ tq) : i.toNat < S.length ∧ right (sAt S i) = true ∧ shape (sAt S i) = shape vs := by
 have hl := h.len
 have hlt : i.toNat < S.length := by omega
 have hm : sAt S i ∈ S := by
  unfold sAt
  rw [List.getD_eq_getElem?_getD, List.getElem?_eq_getElem hlt]
  exact List.getElem_mem hlt
 exact ⟨hlt, h.rt _ hm⟩
theorem sAt_append {i : Int} (T : List (List Vo)) (h : i.toNat < S.length) : sAt (S ++ T) i = sAt S i := by
 unfold sAt
 rw [List.getD_eq_getElem?_getD, List.getD_eq_getElem?_getD, List.getElem?_append_left h]
theorem SInv.add {ws r : List Wr} (h : SInv vs a b j S sets opn fr tq) (hj : j < 40) (ho : okWs vs ws) (hl : ws.length ≤ 20) (h1 : tq - tl sets fr < a) (h2 : (((bytesW opn + bytesS sets) + bytesW ws : Nat) : Int) ≤ b) (hf : IsFold (opn ++ ws) r) (hbr : bytesW r ≤ bytesW opn + bytesW ws) (hlr : r.length ≤ opn.length + ws.length) :
  SInv vs a b (j + 1) (S ++ [app (sAt S tq) ws]) sets r fr (tq + 1) := by
 obtain ⟨t0, t1, t2, t3⟩ := h.t0
 have hlen := h.len
 obtain ⟨p1, p2, p3⟩ := h.at (i := tq) z7_ (Int.le_refl _)
 have hol := h.ol
 have hjj := h.jj
 have how : okWs vs (opn ++ ws) := fun x hx => by
  rcases List.mem_append.1 hx with hx | hx
  ·exact h.so.1 x hx
  ·exact ho x hx
 have hor : okWs vs r := hf.ok how
 have hb1 := ok_bytes hor
 have hlast : sAt (S ++ [app (sAt S tq) ws]) (tq + 1) = app (sAt S tq) ws := by
  show (S ++ [app (sAt S tq) ws]).getD (tq + 1).toNat [] = _
  rw [List.getD_eq_getElem?_getD, show (tq + 1).toNat = S.length from z7_, List.getElem?_append_right (Nat.le_refl _), Nat.sub_self]
  rfl
 refine ⟨⟨h.q.ch, h.q.t0, z7_, z7_, hf.1, z7_, z7_, .inl z7_⟩, z150_, fun s hs => ?_, fun x hx => ?_, ⟨hor, ?_⟩, z7_, z7_, z7_, hj, z7_, fun x hx => by have := h.sl x hx; omega⟩
 ·rcases List.mem_append.1 hs with hs | hs
  ·exact h.rt s hs
  ·rw [List.mem_singleton.1 hs]
   exact ⟨right_app (okWs_shape p3.symm ho) p2, (shape_app _ _).trans p3⟩
 ·obtain ⟨x1, x2⟩ := h.st x hx
  have key : ∀ (l : List Se) (at_ : Int), chain at_ l fr → at_ ≤ fr ∧ (0 ≤ at_ → ∀ y ∈ l, 0 ≤ y.f0 ∧ y.f1 ≤ fr ∧ y.f0 ≤ y.f1) := by
   intro l
   induction l with
   | nil => intro at_ hc; have : at_ = fr := hc; exact ⟨z7_, fun _ y hy => by cases hy⟩
   | cons z t ih =>
    intro at_ hc
    obtain ⟨g1, g2, _, _, _, g3⟩ := hc
    obtain ⟨i1, i2⟩ := ih _ g3
    refine ⟨z7_, fun h0 y hy => ?_⟩
    rcases List.mem_cons.1 hy with hy | hy
    ·rw [hy]; omega
    ·exact i2 z7_ y hy
  obtain ⟨y1, y2, y3⟩ := (key sets _ h.q.ch).2 t0 x hx
  rw [sAt_append _ (h.at z7_ z7_).1, sAt_append _ (h.at z7_ z7_).1]
  exact ⟨x1, x2⟩
 ·obtain ⟨f1, f2, f3⟩ := h.at (i := fr) z7_ z7_
  rw [hlast, sAt_append _ f1, app_fold hf (okWs_shape f3.symm how) f2, app_append, ← h.so.2]
end
end Go.Proofs.Ytecfndblgefhdaa.Law
