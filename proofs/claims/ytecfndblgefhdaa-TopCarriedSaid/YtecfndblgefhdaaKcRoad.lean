import Derived.Test.YtecfndblgefhdaaKcPx15
set_option linter.unusedVariables false
set_option linter.unusedSimpArgs false
namespace Go.Proofs.Ytecfndblgefhdaa.P
open Go.RowKit Go.Proofs.YtecfndblgefhdaaW.PrintWords Go.Proofs.YtecfndblgefhdaaW.PrintLast Go.Proofs.YtecfndblgefhdaaW.PrintMore
structure RS where
 cut : Int
 x0 : S26
 x1 : S26
 net : List S93
 sent : Int
 want : List ByteArray
 jn : Int
 jl : List ByteArray
 texts : List ByteArray
def tagf (f : Nat → Nat) (n i : Nat) : Nat → Nat := fun k => if n ≤ k then i else f k
section
variable {α : Type} {d : Kd α} {e b j i : Nat} {f : Nat → Nat} {W W1 : World} {v : Value} {xs : List α}
theorem R_tag (h : d.R e W b (fun k => f k = j) v xs) (hk : ∀ k, k < W.heap.size → f k ≠ i → W1.heap[k]? = W.heap[k]?) (hne : j ≠ i) : d.R e W1 b (fun k => tagf f W.heap.size i k = j) v xs :=
 Kd.R_mono (Kd.R_move (Kd.R_bound h) (fun k hk2 => hk k hk2.2.2.1 (by rw [hk2.1]; exact hne))) (fun k hk2 => z137_)
theorem Q_tag (h : d.Q e W b (fun k => f k = j) v xs) (hk : ∀ k, k < W.heap.size → f k ≠ i → W1.heap[k]? = W.heap[k]?) (hne : j ≠ i) : d.Q e W1 b (fun k => tagf f W.heap.size i k = j) v xs :=
 Kd.Q_mono (Kd.Q_move (Kd.Q_bound h) (fun k hk2 => hk k hk2.2.2.1 (by rw [hk2.1]; exact hne))) (fun k hk2 => z137_)
end
def cellsR (L : RS) (vl v0 v1 vn vw vj vt : Value) : Array Value :=
 #[vl, .int .i64 L.cut, .int .i64 L.x0.f0, .int .i64 L.x0.f1, .int .i64 L.x0.f2, v0, .int .i64 L.x0.f4, .int .i64 L.x1.f0, .int .i64 L.x1.f1, .int .i64 L.x1.f2, v1, .int .i64 L.x1.f4, vn, .int .i64 L.sent, vw, .int .i64 L.jn, vj, vt]
structure RV (b : Nat) (W : World) (g : Nat) (L : RS) (f : Nat → Nat) (vl v0 v1 vn vw vj vt : Value) : Prop where
 blk : W.heap[g]? = some (.cells (cellsR L vl v0 v1 vn vw vj vt) 39 (0, 0))
 low : b ≤ g
 own : f g = 7
 h0 : Kd.Q (Kd.string) 9 W b (fun k => f k = 0) v0 L.x0.f3
 h1 : Kd.Q (Kd.string) 9 W b (fun k => f k = 1) v1 L.x1.f3
 hn : Kd.R (k93) 93 W b (fun k => f k = 2) vn L.net
 hw : Kd.R (Kd.string) 9 W b (fun k => f k = 3) vw L.want
 hj : Kd.R (Kd.string) 9 W b (fun k => f k = 4) vj L.jl
 ht : Kd.R (Kd.string) 9 W b (fun k => f k = 5) vt L.texts
section
variable {b g : Nat} {W W1 : World} {L : RS} {f : Nat → Nat} {vl v0 v1 vn vw vj vt v : Value}
theorem RV.below (h : RV b W g L f vl v0 v1 vn vw vj vt) (hb : Below W.heap.size W W1) : RV b W1 g L f vl v0 v1 vn vw vj vt :=
 ⟨blk_below h.blk hb, h.low, h.own, Kd.Q_below h.h0 hb, Kd.Q_below h.h1 hb, Kd.R_below h.hn hb, Kd.R_below h.hw hb, Kd.R_below h.hj hb, Kd.R_below h.ht hb⟩
theorem RV.drew (h : RV b W g L f vl v0 v1 vn vw vj vt) : RV b W.drew g L f vl v0 v1 vn vw vj vt := h.below (below_drew1 (Below.refl _ _))
theorem RV.lt (h : RV b W g L f vl v0 v1 vn vw vj vt) : g < W.heap.size := blk_lt h.blk
theorem RV.cell (h : RV b W g L f vl v0 v1 vn vw vj vt) (i : Nat) : W.cell? ⟨g, i, none⟩ = (cellsR L vl v0 v1 vn vw vj vt)[i]? := blk_cell h.blk i
theorem RV.frozen (h : RV b W g L f vl v0 v1 vn vw vj vt) (i : Nat) : W.frozen? ⟨g, i, none⟩ = false := blk_frozen h.blk i
theorem keep_set {W : World} {g j : Nat} {u : Value} {f : Nat → Nat} (hg : f g = 7) : ∀ k, k < W.heap.size → f k ≠ 7 → (W.setCell ⟨g, j, none⟩ u).heap[k]? = W.heap[k]? := fun k _ hk =>
 Below.heap_setCell W ⟨g, j, none⟩ u k (fun e => hk (by rw [e]; exact hg))
theorem keep_grown {W W1 : World} {f : Nat → Nat} {i : Nat} {row : Option Nat} (hg : W.grownBy W1 row) (hr : ∀ k, row = some k → f k = i) : ∀ k, k < W.heap.size → f k ≠ i → W1.heap[k]? = W.heap[k]? := fun k hk hne =>
 hg.block k hk (fun e => hne (hr k e.symm))
theorem tag_old {f : Nat → Nat} {n i g : Nat} (hg : g < n) : tagf f n i g = f g := by unfold tagf; rw [if_neg z2_]
theorem RV.fresh (h : RV b W g L f vl v0 v1 vn vw vj vt) (hb : Below W.heap.size W W1) (i : Nat) : RV b W1 g L (tagf f W.heap.size i) vl v0 v1 vn vw vj vt := by
 have gR : ∀ {α : Type} {d : Kd α} {e j : Nat} {v : Value} {xs : List α}, d.R e W b (fun k => f k = j) v xs → d.R e W1 b (fun k => tagf f W.heap.size i k = j) v xs := fun h => Kd.R_mono (Kd.R_below (Kd.R_bound h) hb) (fun k hk => z138_)
 have gQ : ∀ {α : Type} {d : Kd α} {e j : Nat} {v : Value} {xs : List α}, d.Q e W b (fun k => f k = j) v xs → d.Q e W1 b (fun k => tagf f W.heap.size i k = j) v xs := fun h => Kd.Q_mono (Kd.Q_below (Kd.Q_bound h) hb) (fun k hk => z138_)
 exact ⟨blk_below h.blk hb, h.low, (tag_old h.lt).trans h.own, gQ h.h0, gQ h.h1, gR h.hn, gR h.hw, gR h.hj, gR h.ht⟩
theorem RV.box (h : RV b W g L f vl v0 v1 vn vw vj vt) {gr : Nat} (hf : f gr = 9) (j : Nat) (u : Value) : RV b (W.setCell ⟨gr, j, none⟩ u) g L f vl v0 v1 vn vw vj vt := by
 have ne : ∀ c : Nat, c ≠ 9 → ∀ k, f k = c → k ≠ (⟨gr, j, none⟩ : Addr).block := fun c hc k hk e => hc (by rw [← hk, e]; exact hf)
 exact ⟨blk_far h.blk (ne 7 z17_ g h.own) u, h.low, h.own, Kd.Q_far h.h0 (ne 0 z17_) u, Kd.Q_far h.h1 (ne 1 z17_) u, Kd.R_far h.hn (ne 2 z17_) u, Kd.R_far h.hw (ne 3 z17_) u, Kd.R_far h.hj (ne 4 z17_) u, Kd.R_far h.ht (ne 5 z17_) u⟩
theorem grown_self (W : World) (row : Option Nat) : W.grownBy W row := ⟨rfl, rfl, rfl, Nat.le_refl _, fun _ _ _ => rfl⟩
theorem RV.set_net (h : RV b W g L f vl v0 v1 vn vw vj vt) {l : List S93} (hg : W.grownBy W1 vn.ownBlock) (ho : Kd.R (k93) 93 W1 b (fun k => f k = 2 ∨ W.heap.size ≤ k) v l) :
  ∃ f', (∀ k, k < W.heap.size → f' k = f k) ∧ RV b (W1.setCell ⟨g, 12, none⟩ v) g { L with net := l } f' vl v0 v1 v vw vj vt := by
 have hl := h.lt
 have hsz := hg.size
 have k1 := keep_grown hg h.hn.1
 have gne : f g ≠ 2 := by rw [h.own]; decide
 have hb1 : W1.heap[g]? = some (.cells (cellsR L vl v0 v1 vn vw vj vt) 39 (0, 0)) := (k1 g hl gne).trans h.blk
 have own1 : tagf f W.heap.size 2 g = 7 := (tag_old hl).trans h.own
 have k2 := keep_set (W := W1) (g := g) (j := 12) (u := v) own1
 refine ⟨tagf (tagf f W.heap.size 2) W1.heap.size 7, fun k hk => (tag_old (Nat.lt_of_lt_of_le hk hsz)).trans (tag_old hk), blk_put hb1 12 v rfl, h.low, (tag_old (blk_lt hb1)).trans own1, Q_tag (Q_tag h.h0 k1 z17_) k2 z17_, Q_tag (Q_tag h.h1 k1 z17_) k2 z17_, ?_, R_tag (R_tag h.hw k1 z17_) k2 z17_, R_tag (R_tag h.hj k1 z17_) k2 z17_, R_tag (R_tag h.ht k1 z17_) k2 z17_⟩
 refine R_tag (j := 2) (Kd.R_mono ho (fun k hk => ?_)) k2 z17_
 unfold tagf
 by_cases hk2 : W.heap.size ≤ k
 ·rw [if_pos hk2]
 ·rw [if_neg hk2]
  rcases hk with hk | hk
  ·exact hk
  ·exact absurd hk hk2
theorem RV.new_net (h : RV b W g L f vl v0 v1 vn vw vj vt) {l : List S93} (hb : Below W.heap.size W W1) (ho : Kd.R (k93) 93 W1 b (fun k => W.heap.size ≤ k) v l) :
  ∃ f', (∀ k, k < W.heap.size → f' k = f k) ∧ RV b (W1.setCell ⟨g, 12, none⟩ v) g { L with net := l } f' vl v0 v1 v vw vj vt := by
 obtain ⟨f', h1, h2⟩ := (h.fresh hb 2).set_net (grown_self W1 vn.ownBlock) (Kd.R_mono ho (fun k hk => .inl (by unfold tagf; rw [if_pos hk])))
 exact ⟨f', fun k hk => (h1 k (Nat.lt_of_lt_of_le hk hb.size)).trans (tag_old hk), h2⟩
theorem RV.set_want (h : RV b W g L f vl v0 v1 vn vw vj vt) {l : List ByteArray} (hg : W.grownBy W1 vw.ownBlock) (ho : Kd.R (Kd.string) 9 W1 b (fun k => f k = 3 ∨ W.heap.size ≤ k) v l) :
  ∃ f', (∀ k, k < W.heap.size → f' k = f k) ∧ RV b (W1.setCell ⟨g, 14, none⟩ v) g { L with want := l } f' vl v0 v1 vn v vj vt := by
 have hl := h.lt
 have hsz := hg.size
 have k1 := keep_grown hg h.hw.1
 have gne : f g ≠ 3 := by rw [h.own]; decide
 have hb1 : W1.heap[g]? = some (.cells (cellsR L vl v0 v1 vn vw vj vt) 39 (0, 0)) := (k1 g hl gne).trans h.blk
 have own1 : tagf f W.heap.size 3 g = 7 := (tag_old hl).trans h.own
 have k2 := keep_set (W := W1) (g := g) (j := 14) (u := v) own1
 refine ⟨tagf (tagf f W.heap.size 3) W1.heap.size 7, fun k hk => (tag_old (Nat.lt_of_lt_of_le hk hsz)).trans (tag_old hk), blk_put hb1 14 v rfl, h.low, (tag_old (blk_lt hb1)).trans own1, Q_tag (Q_tag h.h0 k1 z17_) k2 z17_, Q_tag (Q_tag h.h1 k1 z17_) k2 z17_, R_tag (R_tag h.hn k1 z17_) k2 z17_, ?_, R_tag (R_tag h.hj k1 z17_) k2 z17_, R_tag (R_tag h.ht k1 z17_) k2 z17_⟩
 refine R_tag (j := 3) (Kd.R_mono ho (fun k hk => ?_)) k2 z17_
 unfold tagf
 by_cases hk2 : W.heap.size ≤ k
 ·rw [if_pos hk2]
 ·rw [if_neg hk2]
  rcases hk with hk | hk
  ·exact hk
  ·exact absurd hk hk2
theorem RV.set_jl (h : RV b W g L f vl v0 v1 vn vw vj vt) {l : List ByteArray} (hg : W.grownBy W1 vj.ownBlock) (ho : Kd.R (Kd.string) 9 W1 b (fun k => f k = 4 ∨ W.heap.size ≤ k) v l) :
  ∃ f', (∀ k, k < W.heap.size → f' k = f k) ∧ RV b (W1.setCell ⟨g, 16, none⟩ v) g { L with jl := l } f' vl v0 v1 vn vw v vt := by
 have hl := h.lt
 have hsz := hg.size
 have k1 := keep_grown hg h.hj.1
 have gne : f g ≠ 4 := by rw [h.own]; decide
 have hb1 : W1.heap[g]? = some (.cells (cellsR L vl v0 v1 vn vw vj vt) 39 (0, 0)) := (k1 g hl gne).trans h.blk
 have own1 : tagf f W.heap.size 4 g = 7 := (tag_old hl).trans h.own
 have k2 := keep_set (W := W1) (g := g) (j := 16) (u := v) own1
 refine ⟨tagf (tagf f W.heap.size 4) W1.heap.size 7, fun k hk => (tag_old (Nat.lt_of_lt_of_le hk hsz)).trans (tag_old hk), blk_put hb1 16 v rfl, h.low, (tag_old (blk_lt hb1)).trans own1, Q_tag (Q_tag h.h0 k1 z17_) k2 z17_, Q_tag (Q_tag h.h1 k1 z17_) k2 z17_, R_tag (R_tag h.hn k1 z17_) k2 z17_, R_tag (R_tag h.hw k1 z17_) k2 z17_, ?_, R_tag (R_tag h.ht k1 z17_) k2 z17_⟩
 refine R_tag (j := 4) (Kd.R_mono ho (fun k hk => ?_)) k2 z17_
 unfold tagf
 by_cases hk2 : W.heap.size ≤ k
 ·rw [if_pos hk2]
 ·rw [if_neg hk2]
  rcases hk with hk | hk
  ·exact hk
  ·exact absurd hk hk2
theorem RV.set_texts (h : RV b W g L f vl v0 v1 vn vw vj vt) {l : List ByteArray} (hg : W.grownBy W1 vt.ownBlock) (ho : Kd.R (Kd.string) 9 W1 b (fun k => f k = 5 ∨ W.heap.size ≤ k) v l) :
  ∃ f', (∀ k, k < W.heap.size → f' k = f k) ∧ RV b (W1.setCell ⟨g, 17, none⟩ v) g { L with texts := l } f' vl v0 v1 vn vw vj v := by
 have hl := h.lt
 have hsz := hg.size
 have k1 := keep_grown hg h.ht.1
 have gne : f g ≠ 5 := by rw [h.own]; decide
 have hb1 : W1.heap[g]? = some (.cells (cellsR L vl v0 v1 vn vw vj vt) 39 (0, 0)) := (k1 g hl gne).trans h.blk
 have own1 : tagf f W.heap.size 5 g = 7 := (tag_old hl).trans h.own
 have k2 := keep_set (W := W1) (g := g) (j := 17) (u := v) own1
 refine ⟨tagf (tagf f W.heap.size 5) W1.heap.size 7, fun k hk => (tag_old (Nat.lt_of_lt_of_le hk hsz)).trans (tag_old hk), blk_put hb1 17 v rfl, h.low, (tag_old (blk_lt hb1)).trans own1, Q_tag (Q_tag h.h0 k1 z17_) k2 z17_, Q_tag (Q_tag h.h1 k1 z17_) k2 z17_, R_tag (R_tag h.hn k1 z17_) k2 z17_, R_tag (R_tag h.hw k1 z17_) k2 z17_, R_tag (R_tag h.hj k1 z17_) k2 z17_, ?_⟩
 refine R_tag (j := 5) (Kd.R_mono ho (fun k hk => ?_)) k2 z17_
 unfold tagf
 by_cases hk2 : W.heap.size ≤ k
 ·rw [if_pos hk2]
 ·rw [if_neg hk2]
  rcases hk with hk | hk
  ·exact hk
  ·exact absurd hk hk2
theorem RV.set_jn (h : RV b W g L f vl v0 v1 vn vw vj vt) (x : Int) : RV b (W.setCell ⟨g, 15, none⟩ (.int .i64 x)) g { L with jn := x } f vl v0 v1 vn vw vj vt := by
 have ne : ∀ c : Nat, c ≠ 7 → ∀ k, f k = c → k ≠ (⟨g, 15, none⟩ : Addr).block := fun c hc k hk e => hc z139_
 exact ⟨blk_put h.blk 15 (.int .i64 x) rfl, h.low, h.own, Kd.Q_far h.h0 (ne 0 z17_) _, Kd.Q_far h.h1 (ne 1 z17_) _, Kd.R_far h.hn (ne 2 z17_) _, Kd.R_far h.hw (ne 3 z17_) _, Kd.R_far h.hj (ne 4 z17_) _, Kd.R_far h.ht (ne 5 z17_) _⟩
theorem RV.set_sent (h : RV b W g L f vl v0 v1 vn vw vj vt) (x : Int) : RV b (W.setCell ⟨g, 13, none⟩ (.int .i64 x)) g { L with sent := x } f vl v0 v1 vn vw vj vt := by
 have ne : ∀ c : Nat, c ≠ 7 → ∀ k, f k = c → k ≠ (⟨g, 13, none⟩ : Addr).block := fun c hc k hk e => hc z139_
 exact ⟨blk_put h.blk 13 (.int .i64 x) rfl, h.low, h.own, Kd.Q_far h.h0 (ne 0 z17_) _, Kd.Q_far h.h1 (ne 1 z17_) _, Kd.R_far h.hn (ne 2 z17_) _, Kd.R_far h.hw (ne 3 z17_) _, Kd.R_far h.hj (ne 4 z17_) _, Kd.R_far h.ht (ne 5 z17_) _⟩
theorem RV.setX0 (h : RV b W g L f vl v0 v1 vn vw vj vt) (x : S26) (hq : Kd.Q Kd.string 9 W b (fun k => f k = 0) v x.f3) : RV b (((((W.setCell ⟨g, 2, none⟩ (.int .i64 x.f0)).setCell ⟨g, 3, none⟩ (.int .i64 x.f1)).setCell ⟨g, 4, none⟩ (.int .i64 x.f2)).setCell ⟨g, 5, none⟩ v).setCell ⟨g, 6, none⟩ (.int .i64 x.f4)) g { L with x0 := x } f vl v v1 vn vw vj vt := by
 have ne : ∀ c : Nat, c ≠ 7 → ∀ k, f k = c → k ≠ g := fun c hc k hk e => hc z139_
 exact ⟨(blk_put (blk_put (blk_put (blk_put (blk_put h.blk 2 (.int .i64 x.f0) rfl) 3 (.int .i64 x.f1) rfl) 4 (.int .i64 x.f2) rfl) 5 v rfl) 6 (.int .i64 x.f4) rfl), h.low, h.own, (Kd.Q_far (Kd.Q_far (Kd.Q_far (Kd.Q_far (Kd.Q_far hq (p := ⟨g, 2, none⟩) (ne 0 z17_) _) (p := ⟨g, 3, none⟩) (ne 0 z17_) _) (p := ⟨g, 4, none⟩) (ne 0 z17_) _) (p := ⟨g, 5, none⟩) (ne 0 z17_) _) (p := ⟨g, 6, none⟩) (ne 0 z17_) _), (Kd.Q_far (Kd.Q_far (Kd.Q_far (Kd.Q_far (Kd.Q_far h.h1 (p := ⟨g, 2, none⟩) (ne 1 z17_) _) (p := ⟨g, 3, none⟩) (ne 1 z17_) _) (p := ⟨g, 4, none⟩) (ne 1 z17_) _) (p := ⟨g, 5, none⟩) (ne 1 z17_) _) (p := ⟨g, 6, none⟩) (ne 1 z17_) _), (Kd.R_far (Kd.R_far (Kd.R_far (Kd.R_far (Kd.R_far h.hn (p := ⟨g, 2, none⟩) (ne 2 z17_) _) (p := ⟨g, 3, none⟩) (ne 2 z17_) _) (p := ⟨g, 4, none⟩) (ne 2 z17_) _) (p := ⟨g, 5, none⟩) (ne 2 z17_) _) (p := ⟨g, 6, none⟩) (ne 2 z17_) _), (Kd.R_far (Kd.R_far (Kd.R_far (Kd.R_far (Kd.R_far h.hw (p := ⟨g, 2, none⟩) (ne 3 z17_) _) (p := ⟨g, 3, none⟩) (ne 3 z17_) _) (p := ⟨g, 4, none⟩) (ne 3 z17_) _) (p := ⟨g, 5, none⟩) (ne 3 z17_) _) (p := ⟨g, 6, none⟩) (ne 3 z17_) _), (Kd.R_far (Kd.R_far (Kd.R_far (Kd.R_far (Kd.R_far h.hj (p := ⟨g, 2, none⟩) (ne 4 z17_) _) (p := ⟨g, 3, none⟩) (ne 4 z17_) _) (p := ⟨g, 4, none⟩) (ne 4 z17_) _) (p := ⟨g, 5, none⟩) (ne 4 z17_) _) (p := ⟨g, 6, none⟩) (ne 4 z17_) _), (Kd.R_far (Kd.R_far (Kd.R_far (Kd.R_far (Kd.R_far h.ht (p := ⟨g, 2, none⟩) (ne 5 z17_) _) (p := ⟨g, 3, none⟩) (ne 5 z17_) _) (p := ⟨g, 4, none⟩) (ne 5 z17_) _) (p := ⟨g, 5, none⟩) (ne 5 z17_) _) (p := ⟨g, 6, none⟩) (ne 5 z17_) _)⟩
theorem RV.setX1 (h : RV b W g L f vl v0 v1 vn vw vj vt) (x : S26) (hq : Kd.Q Kd.string 9 W b (fun k => f k = 1) v x.f3) : RV b (((((W.setCell ⟨g, 7, none⟩ (.int .i64 x.f0)).setCell ⟨g, 8, none⟩ (.int .i64 x.f1)).setCell ⟨g, 9, none⟩ (.int .i64 x.f2)).setCell ⟨g, 10, none⟩ v).setCell ⟨g, 11, none⟩ (.int .i64 x.f4)) g { L with x1 := x } f vl v0 v vn vw vj vt := by
 have ne : ∀ c : Nat, c ≠ 7 → ∀ k, f k = c → k ≠ g := fun c hc k hk e => hc z139_
 exact ⟨(blk_put (blk_put (blk_put (blk_put (blk_put h.blk 7 (.int .i64 x.f0) rfl) 8 (.int .i64 x.f1) rfl) 9 (.int .i64 x.f2) rfl) 10 v rfl) 11 (.int .i64 x.f4) rfl), h.low, h.own, (Kd.Q_far (Kd.Q_far (Kd.Q_far (Kd.Q_far (Kd.Q_far h.h0 (p := ⟨g, 7, none⟩) (ne 0 z17_) _) (p := ⟨g, 8, none⟩) (ne 0 z17_) _) (p := ⟨g, 9, none⟩) (ne 0 z17_) _) (p := ⟨g, 10, none⟩) (ne 0 z17_) _) (p := ⟨g, 11, none⟩) (ne 0 z17_) _), (Kd.Q_far (Kd.Q_far (Kd.Q_far (Kd.Q_far (Kd.Q_far hq (p := ⟨g, 7, none⟩) (ne 1 z17_) _) (p := ⟨g, 8, none⟩) (ne 1 z17_) _) (p := ⟨g, 9, none⟩) (ne 1 z17_) _) (p := ⟨g, 10, none⟩) (ne 1 z17_) _) (p := ⟨g, 11, none⟩) (ne 1 z17_) _), (Kd.R_far (Kd.R_far (Kd.R_far (Kd.R_far (Kd.R_far h.hn (p := ⟨g, 7, none⟩) (ne 2 z17_) _) (p := ⟨g, 8, none⟩) (ne 2 z17_) _) (p := ⟨g, 9, none⟩) (ne 2 z17_) _) (p := ⟨g, 10, none⟩) (ne 2 z17_) _) (p := ⟨g, 11, none⟩) (ne 2 z17_) _), (Kd.R_far (Kd.R_far (Kd.R_far (Kd.R_far (Kd.R_far h.hw (p := ⟨g, 7, none⟩) (ne 3 z17_) _) (p := ⟨g, 8, none⟩) (ne 3 z17_) _) (p := ⟨g, 9, none⟩) (ne 3 z17_) _) (p := ⟨g, 10, none⟩) (ne 3 z17_) _) (p := ⟨g, 11, none⟩) (ne 3 z17_) _), (Kd.R_far (Kd.R_far (Kd.R_far (Kd.R_far (Kd.R_far h.hj (p := ⟨g, 7, none⟩) (ne 4 z17_) _) (p := ⟨g, 8, none⟩) (ne 4 z17_) _) (p := ⟨g, 9, none⟩) (ne 4 z17_) _) (p := ⟨g, 10, none⟩) (ne 4 z17_) _) (p := ⟨g, 11, none⟩) (ne 4 z17_) _), (Kd.R_far (Kd.R_far (Kd.R_far (Kd.R_far (Kd.R_far h.ht (p := ⟨g, 7, none⟩) (ne 5 z17_) _) (p := ⟨g, 8, none⟩) (ne 5 z17_) _) (p := ⟨g, 9, none⟩) (ne 5 z17_) _) (p := ⟨g, 10, none⟩) (ne 5 z17_) _) (p := ⟨g, 11, none⟩) (ne 5 z17_) _)⟩
end
def RoadF (b : Nat) (W : World) (g : Nat) (L : RS) (vl : Value) (f : Nat → Nat) : Prop := ∃ v0 v1 vn vw vj vt, RV b W g L f vl v0 v1 vn vw vj vt
def Road (b : Nat) (W : World) (g : Nat) (L : RS) (vl : Value) : Prop := ∃ f, RoadF b W g L vl f
def Kept9 (w W : World) (f f' : Nat → Nat) : Prop := ∀ k, k < w.heap.size → f k = 9 → f' k = 9 ∧ W.heap[k]? = w.heap[k]?
theorem Kept9.trans {w W W1 : World} {f f1 f2 : Nat → Nat} (h : Kept9 w W f f1) (h2 : Kept9 W W1 f1 f2) (hs : w.heap.size ≤ W.heap.size) : Kept9 w W1 f f2 := fun k hk h9 =>
 ⟨(h2 k (Nat.lt_of_lt_of_le hk hs) (h k hk h9).1).1, (h2 k (Nat.lt_of_lt_of_le hk hs) (h k hk h9).1).2.trans (h k hk h9).2⟩
theorem Kept9.row {w W : World} {f f' : Nat → Nat} {g j : Nat} {u : Value} {row : Option Nat} (hg : w.grownBy W row) (hr : ∀ k, row = some k → f k ≠ 9) (hf : ∀ k, k < w.heap.size → f' k = f k) (ho : f g ≠ 9) : Kept9 w (W.setCell ⟨g, j, none⟩ u) f f' := fun k hk h9 => by
 have hne : k ≠ g := fun e => ho (by rw [← e]; exact h9)
 exact ⟨(hf k hk).trans h9, (Below.heap_setCell _ _ _ k hne).trans (hg.block k hk (fun e => hr k e.symm h9))⟩
theorem Kept9.fresh {w W : World} {f : Nat → Nat} (hb : Below w.heap.size w W) (i : Nat) : Kept9 w W f (tagf f w.heap.size i) := fun k hk h9 => ⟨(tag_old hk).trans h9, hb.block k hk⟩
theorem R9_kept {α : Type} {d : Kd α} {e b : Nat} {f f' : Nat → Nat} {w W : World} {v : Value} {xs : List α} (h : d.R e w b (fun k => f k = 9) v xs) (hk : Kept9 w W f f') : d.R e W b (fun k => f' k = 9) v xs :=
 Kd.R_mono (Kd.R_move (Kd.R_bound h) (fun k hk2 => (hk k hk2.2.2.1 hk2.1).2)) (fun k hk2 => (hk k hk2.2.2.1 hk2.1).1)
attribute [local go_sem] max2_int min2_int max_two min_two max_three min_three max_four min_four
theorem infoT : (Try.prog.info? 9).map (fun i => (i.zero, i.size, i.bytes)) = some (some (.string ⟨#[]⟩), 1, 16) := by kernel_rfl
def RS.hear (L : RS) (r1 : Int) (r2 : List ByteArray) (r3 : ByteArray) (r4 : Bool) : RS := { L with jn := r1, jl := r2, texts := if r4 = true then L.texts ++ [r3] else L.texts }
set_option maxHeartbeats 4000000 in
set_option maxRecDepth 100000 in
theorem heard_comes.calls (k b g : Nat) (L : RS) (vl : Value) (f : Nat → Nat) (piece : ByteArray) (r1 : Int) (r2 : List ByteArray) (r3 : ByteArray) (r4 : Bool) (r5 : Int) (w : World) (h : RoadF b w g L vl f) (hb : b ≤ w.heap.size)
  (hf : seg_Feed.f k L.jn L.jl piece = some (r1, r2, r3, r4, r5)) (hlim : L.texts.length ≤ 1000) :
  Calls Try.prog 32 #[.pointer (some ⟨g, 15, none⟩), .string piece] w fun e w' => e = .returned (.tuple #[]) ∧ (∃ f', RoadF b w' g (L.hear r1 r2 r3 r4) vl f' ∧ Kept9 w w' f f') ∧ Below b w w' := by
 obtain ⟨v0, v1, vn, vw, vj, vt, h⟩ := h
 obtain ⟨Aj, cj, hvj, hncj, hCj⟩ := Kd.R_reads h.hj
 subst hvj
 have HE := a0_ h
 have HB := a0_ hb
 have HF := a0_ hf
 have HN := a0_ hncj
 have HL := a0_ hlim
 clear hCj hf hncj hb hlim h
 have x15 := HE.out.cell 15
 have x16 := HE.out.cell 16
 simp only [cellsR] at x15 x16
 go_enter Try.func32, Try.ntmps32
 go_upto_region 1 with (go_at_call 70; (with_reducible refine (seg_Feed.calls k L.jn Aj cj L.jl piece r1 r2 r3 r4 r5 _ (Kd.R_reads' HE.out.hj).2.2 HN.out HF.out).mono ?_); rintro e W1 ⟨vq, rfl, hr, hb1⟩; obtain ⟨Aq, cq, rfl⟩ := Kd.R_slice hr; have HR := a0_ hr; have HB1 := a0_ hb1; clear hr hb1 x15 x16)
 have HB2 := a0_ (below_alloc HB1.out (.cells #[.int .i64 r1, .slice Aq r2.length cq] 35))
 have BP := a0_ (blk_new W1 (.cells #[.int .i64 r1, .slice Aq r2.length cq] 35))
 have HE2 := a0_ (HE.out.fresh HB2.out 4)
 have HR2 : Aside0 (Kd.string.R 9 (W1.alloc (.cells #[.int .i64 r1, .slice Aq r2.length cq] 35)) b (fun k => tagf f w.heap.size 4 k = 4) (.slice Aq r2.length cq) r2) := ⟨Kd.R_mono (Kd.R_lower (Kd.R_below (Kd.R_bound HR.out) (below_alloc (Below.refl _ _) _)) HB.out) (fun k hk => z140_)⟩
 have HK9 : Aside0 (Kept9 w (W1.alloc (.cells #[.int .i64 r1, .slice Aq r2.length cq] 35)) f (tagf f w.heap.size 4)) := ⟨fun k hk h9 => ⟨(tag_old hk).trans h9, HB2.out.block k hk⟩⟩
 obtain ⟨gp, hgp⟩ : ∃ gp, gp = W1.heap.size := ⟨_, rfl⟩
 rw [← hgp] at BP ⊢
 have HGP : Aside0 (w.heap.size ≤ gp) := ⟨by rw [hgp]; exact HB1.out.size⟩
 clear hgp HE HR HB1
 generalize W1.alloc (.cells #[.int .i64 r1, .slice Aq r2.length cq] 35) = W2 at HB2 BP HE2 HR2 HK9 ⊢
 have hfo : ∀ k, k < w.heap.size → tagf f w.heap.size 4 k = f k := fun k hk => tag_old hk
 have HFO := a0_ hfo
 clear hfo
 generalize tagf f w.heap.size 4 = f2 at HE2 HR2 HK9 HFO
 have y0 := blk_cell BP.out 0
 have y1 := blk_cell BP.out 1
 have z15 := HE2.out.cell 15
 have z16 := HE2.out.cell 16
 simp only [cellsR] at z15 z16
 have u15 := HE2.out.frozen 15
 have u16 := HE2.out.frozen 16
 go_upto_region 2 with (fail)
 have HE3 := a0_ (HE2.out.set_jn r1)
 have HR3 := a0_ (Kd.R_far HR2.out (p := ⟨g, 15, none⟩) (fun k hk e => by have h7 := HE2.out.own; rw [show k = g from e] at hk; rw [hk] at h7; cases h7) (.int .i64 r1))
 obtain ⟨f3, hf3, he4⟩ := HE3.out.set_jl (l := r2) (v := .slice Aq r2.length cq) (grown_self _ _) (Kd.R_mono HR3.out (fun k hk => .inl hk))
 have HE4 := a0_ he4
 have HSZ : Aside0 (w.heap.size ≤ W2.heap.size) := ⟨HB2.out.size⟩
 have hk4 : Kept9 w ((W2.setCell ⟨g, 15, none⟩ (.int .i64 r1)).setCell ⟨g, 16, none⟩ (.slice Aq r2.length cq)) f f3 := fun k hk h9 => by
  have h1 := HK9.out k hk h9
  have hne : k ≠ g := fun e => by have h7 := HE2.out.own; rw [← e, h1.1] at h7; cases h7
  refine ⟨(hf3 k (by have := HSZ.out; simp [World.setCell]; omega)).trans h1.1, ?_⟩
  rw [Below.heap_setCell _ _ _ k hne, Below.heap_setCell _ _ _ k hne]
  exact h1.2
 have HK4 := a0_ hk4
 have HB4 := a0_ (((HB2.out.mono HB.out).setCell (p := ⟨g, 15, none⟩) HE2.out.low (.int .i64 r1)).setCell (p := ⟨g, 16, none⟩) HE2.out.low (.slice Aq r2.length cq))
 clear hf3 he4 hk4 HR2 HR3 HE3 HE2 y0 y1 z15 z16 u15 u16 HK9 HFO BP HB2
 generalize (W2.setCell ⟨g, 15, none⟩ (.int .i64 r1)).setCell ⟨g, 16, none⟩ (.slice Aq r2.length cq) = W4 at HE4 HK4 HB4 ⊢
 cases r4 with
 | false =>
  go_wp2
  refine bodyPost_end (results_none rfl _ _ _) rfl ?_
  exact ⟨rfl, ⟨f3, ⟨_, _, _, _, _, _, HE4.out⟩, HK4.out⟩, HB4.out⟩
 | true =>
  obtain ⟨At, ct, hvt, hnct, hCt⟩ := Kd.R_reads HE4.out.ht
  subst hvt
  clear hnct hCt
  have x17 := HE4.out.cell 17
  simp only [cellsR] at x17
  go_wp2_with (at_builtin; refine Kd.R_append Kd.string b rfl (.tmp 28) (.tmp 30) 24 9 (.string ⟨#[]⟩) 16 rfl Try.underlying24 infoT rfl z17_ z2_ (.slice At L.texts.length ct) L.texts r3 [.string r3] (fun k => f3 k = 5 ∨ W4.heap.size ≤ k) (fun _ => False) rfl ?hx ?aP (fun _ hk => hk.elim) ?aF ?aO (Below.refl _ _) ?aS ?aL ?_; (case hx => exact z141_); (case aP => exact z72_); (case aF => exact z142_); (case aO => exact Kd.R_mono HE4.out.ht (fun k hk => .inl hk)); (case aS => exact Nat.le_trans HB.out (Nat.le_trans HB4.out.size (Nat.le_refl _))); (case aL => have := HL.out; omega); intro v5 w5 ho hb5 hg _; obtain ⟨A5, c5, rfl⟩ := Kd.R_slice ho; have HO := a0_ ho; have HG := a0_ hg; clear ho hb5 hg x17; have hne : f3 g ≠ 5 := (by rw [HE4.out.own]; decide); have hbk := blk_grown HE4.out.blk HG.out (fun e => hne (HE4.out.ht.1 g e.symm)); have x17 : w5.cell? ⟨g, 17, none⟩ = some (.slice At L.texts.length ct) := (blk_cell hbk 17).trans rfl; have u17 : w5.frozen? ⟨g, 17, none⟩ = false := blk_frozen hbk 17; clear hbk)
  refine bodyPost_end (results_none rfl _ _ _) rfl ?_
  have hbs : b ≤ W4.heap.size := Nat.le_trans HB.out HB4.out.size
  obtain ⟨f5, hf5, he5⟩ := HE4.out.set_texts (l := L.texts ++ [r3]) (v := .slice A5 (L.texts ++ [r3]).length c5) HG.out HO.out
  rw [show (L.texts ++ [r3]).length = L.texts.length + 1 from by simp] at he5
  refine ⟨rfl, ⟨f5, ⟨_, _, _, _, _, _, he5⟩, fun k hk h9 => ?_⟩, (pw_below_grown HB4.out _ hbs HG.out (fun k hk => Kd.R_base HE4.out.ht k hk)).setCell (p := ⟨g, 17, none⟩) HE4.out.low _⟩
  have h1 := HK4.out k hk h9
  have hk4 := Nat.lt_of_lt_of_le hk HB4.out.size
  have hne : k ≠ g := fun e => by have h7 := HE4.out.own; rw [← e, h1.1] at h7; cases h7
  refine ⟨(hf5 k hk4).trans h1.1, ?_⟩
  rw [Below.heap_setCell _ _ _ k hne, HG.out.block k hk4 (fun e => by have h5 : f3 k = 5 := HE4.out.ht.1 k e.symm; rw [h1.1] at h5; cases h5)]
  exact h1.2
end Go.Proofs.Ytecfndblgefhdaa.P
