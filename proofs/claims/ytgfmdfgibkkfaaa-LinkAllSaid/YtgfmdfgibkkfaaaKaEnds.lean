import Derived.Test.YtgfmdfgibkkfaaaKaPx0
import Derived.Test.YtgfmdfgibkkfaaaKaPx5
import Derived.LoopTactic
set_option linter.unusedVariables false
set_option linter.unusedSimpArgs false
namespace Go.Proofs.Ytgfmdfgibkkfaaa.P
open Go.RowKit Go.Proofs.YtgfmdfgibkkfaaaW.PrintWords Go.Proofs.YtgfmdfgibkkfaaaW.PrintLast Go.Proofs.YtgfmdfgibkkfaaaW.PrintMore
structure LS where
  x0 : S24
  x1 : S24
  net : List S65
  p0 : List ByteArray
  p1 : List ByteArray
  c0 : List ByteArray
  c1 : List ByteArray
def tagf (f : Nat → Nat) (n i : Nat) : Nat → Nat := fun k => if n ≤ k then i else f k
section
variable {α : Type} {d : Kd α} {e b j i : Nat} {f : Nat → Nat} {W W1 : World} {v : Value} {xs : List α}
theorem R_tag (h : d.R e W b (fun k => f k = j) v xs) (hk : ∀ k, k < W.heap.size → f k ≠ i → W1.heap[k]? = W.heap[k]?) (hne : j ≠ i) : d.R e W1 b (fun k => tagf f W.heap.size i k = j) v xs :=
  Kd.R_mono (Kd.R_move (Kd.R_bound h) (fun k hk2 => hk k hk2.2.2.1 (by rw [hk2.1]; exact hne))) (fun k hk2 => by unfold tagf; rw [if_neg (by have := hk2.2.2.1; omega)]; exact hk2.1)
theorem Q_tag (h : d.Q e W b (fun k => f k = j) v xs) (hk : ∀ k, k < W.heap.size → f k ≠ i → W1.heap[k]? = W.heap[k]?) (hne : j ≠ i) : d.Q e W1 b (fun k => tagf f W.heap.size i k = j) v xs :=
  Kd.Q_mono (Kd.Q_move (Kd.Q_bound h) (fun k hk2 => hk k hk2.2.2.1 (by rw [hk2.1]; exact hne))) (fun k hk2 => by unfold tagf; rw [if_neg (by have := hk2.2.2.1; omega)]; exact hk2.1)
end
def cellsE (L : LS) (v0 v1 vn q0 q1 r0 r1 : Value) : Array Value :=
  #[.int .i64 L.x0.f0, .int .i64 L.x0.f1, .int .i64 L.x0.f2, v0, .int .i64 L.x0.f4, .int .i64 L.x1.f0, .int .i64 L.x1.f1, .int .i64 L.x1.f2, v1, .int .i64 L.x1.f4, vn, q0, q1, r0, r1]
structure EV (b : Nat) (W : World) (g : Nat) (L : LS) (f : Nat → Nat) (v0 v1 vn q0 q1 r0 r1 : Value) : Prop where
  blk : W.heap[g]? = some (.cells (cellsE L v0 v1 vn q0 q1 r0 r1) 61 (0, 0))
  low : b ≤ g
  own : f g = 7
  h0 : Kd.Q Kd.string 9 W b (fun k => f k = 0) v0 L.x0.f3
  h1 : Kd.Q Kd.string 9 W b (fun k => f k = 1) v1 L.x1.f3
  hn : k65.R 65 W b (fun k => f k = 2) vn L.net
  hp0 : Kd.string.R 9 W b (fun k => f k = 3) q0 L.p0
  hp1 : Kd.string.R 9 W b (fun k => f k = 4) q1 L.p1
  hc0 : Kd.string.R 9 W b (fun k => f k = 5) r0 L.c0
  hc1 : Kd.string.R 9 W b (fun k => f k = 6) r1 L.c1
section
variable {b g : Nat} {W W1 : World} {L : LS} {f : Nat → Nat} {v0 v1 vn q0 q1 r0 r1 v : Value}
theorem EV.below (h : EV b W g L f v0 v1 vn q0 q1 r0 r1) (hb : Below W.heap.size W W1) : EV b W1 g L f v0 v1 vn q0 q1 r0 r1 :=
  ⟨blk_below h.blk hb, h.low, h.own, Kd.Q_below h.h0 hb, Kd.Q_below h.h1 hb, Kd.R_below h.hn hb, Kd.R_below h.hp0 hb, Kd.R_below h.hp1 hb, Kd.R_below h.hc0 hb, Kd.R_below h.hc1 hb⟩
theorem EV.drew (h : EV b W g L f v0 v1 vn q0 q1 r0 r1) : EV b W.drew g L f v0 v1 vn q0 q1 r0 r1 := h.below (below_drew1 (Below.refl _ _))
theorem EV.alloc (h : EV b W g L f v0 v1 vn q0 q1 r0 r1) (o : Obj) : EV b (W.alloc o) g L f v0 v1 vn q0 q1 r0 r1 := h.below (below_alloc (Below.refl _ _) o)
theorem EV.lt (h : EV b W g L f v0 v1 vn q0 q1 r0 r1) : g < W.heap.size := blk_lt h.blk
theorem EV.cell (h : EV b W g L f v0 v1 vn q0 q1 r0 r1) (i : Nat) : W.cell? ⟨g, i, none⟩ = (cellsE L v0 v1 vn q0 q1 r0 r1)[i]? := blk_cell h.blk i
theorem EV.frozen (h : EV b W g L f v0 v1 vn q0 q1 r0 r1) (i : Nat) : W.frozen? ⟨g, i, none⟩ = false := blk_frozen h.blk i
theorem keep_set {W : World} {g j : Nat} {u : Value} {f : Nat → Nat} (hg : f g = 7) : ∀ k, k < W.heap.size → f k ≠ 7 → (W.setCell ⟨g, j, none⟩ u).heap[k]? = W.heap[k]? := fun k _ hk =>
  Below.heap_setCell W ⟨g, j, none⟩ u k (fun e => hk (by rw [e]; exact hg))
theorem keep_grown {W W1 : World} {f : Nat → Nat} {i : Nat} {row : Option Nat} (hg : W.grownBy W1 row) (hr : ∀ k, row = some k → f k = i) : ∀ k, k < W.heap.size → f k ≠ i → W1.heap[k]? = W.heap[k]? := fun k hk hne =>
  hg.block k hk (fun e => hne (hr k e.symm))
theorem tag_old {f : Nat → Nat} {n i g : Nat} (hg : g < n) : tagf f n i g = f g := by unfold tagf; rw [if_neg (by omega)]
theorem EV.setNet (h : EV b W g L f v0 v1 vn q0 q1 r0 r1) {net : List S65} (hg : W.grownBy W1 vn.ownBlock) (ho : k65.R 65 W1 b (fun k => f k = 2 ∨ W.heap.size ≤ k) v net) :
    ∃ f', (∀ k, k < W.heap.size → f' k = f k) ∧ EV b (W1.setCell ⟨g, 10, none⟩ v) g { L with net := net } f' v0 v1 v q0 q1 r0 r1 := by
  have hl := h.lt
  have hsz := hg.size
  have k1 := keep_grown hg h.hn.1
  have gne : f g ≠ 2 := by rw [h.own]; decide
  have hb1 : W1.heap[g]? = some (.cells (cellsE L v0 v1 vn q0 q1 r0 r1) 61 (0, 0)) := (k1 g hl gne).trans h.blk
  have own1 : tagf f W.heap.size 2 g = 7 := (tag_old hl).trans h.own
  have k2 := keep_set (W := W1) (g := g) (j := 10) (u := v) own1
  refine ⟨tagf (tagf f W.heap.size 2) W1.heap.size 7, fun k hk => (tag_old (Nat.lt_of_lt_of_le hk hsz)).trans (tag_old hk), blk_put hb1 10 v rfl, h.low, ?_, Q_tag (Q_tag h.h0 k1 (by decide)) k2 (by decide), Q_tag (Q_tag h.h1 k1 (by decide)) k2 (by decide), ?_, R_tag (R_tag h.hp0 k1 (by decide)) k2 (by decide), R_tag (R_tag h.hp1 k1 (by decide)) k2 (by decide), R_tag (R_tag h.hc0 k1 (by decide)) k2 (by decide), R_tag (R_tag h.hc1 k1 (by decide)) k2 (by decide)⟩
  · rw [tag_old (blk_lt hb1)]; exact own1
  · refine R_tag (j := 2) (Kd.R_mono ho (fun k hk => ?_)) k2 (by decide)
    unfold tagf
    by_cases hk2 : W.heap.size ≤ k
    · rw [if_pos hk2]
    · rw [if_neg hk2]
      rcases hk with hk | hk
      · exact hk
      · exact absurd hk hk2
theorem EV.fresh (h : EV b W g L f v0 v1 vn q0 q1 r0 r1) (hb : Below W.heap.size W W1) (i : Nat) : EV b W1 g L (tagf f W.heap.size i) v0 v1 vn q0 q1 r0 r1 := by
  have go : ∀ {j k : Nat}, f k = j ∧ b ≤ k ∧ k < W.heap.size ∧ True → tagf f W.heap.size i k = j := fun {j k} hk => by rw [tag_old hk.2.2.1]; exact hk.1
  have gR : ∀ {α : Type} {d : Kd α} {e j : Nat} {v : Value} {xs : List α}, d.R e W b (fun k => f k = j) v xs → d.R e W1 b (fun k => tagf f W.heap.size i k = j) v xs := fun h => Kd.R_mono (Kd.R_below (Kd.R_bound h) hb) (fun k hk => by rw [tag_old hk.2.2.1]; exact hk.1)
  have gQ : ∀ {α : Type} {d : Kd α} {e j : Nat} {v : Value} {xs : List α}, d.Q e W b (fun k => f k = j) v xs → d.Q e W1 b (fun k => tagf f W.heap.size i k = j) v xs := fun h => Kd.Q_mono (Kd.Q_below (Kd.Q_bound h) hb) (fun k hk => by rw [tag_old hk.2.2.1]; exact hk.1)
  exact ⟨blk_below h.blk hb, h.low, (tag_old h.lt).trans h.own, gQ h.h0, gQ h.h1, gR h.hn, gR h.hp0, gR h.hp1, gR h.hc0, gR h.hc1⟩
theorem EV.box (h : EV b W g L f v0 v1 vn q0 q1 r0 r1) {gr : Nat} (hf : f gr = 9) (j : Nat) (u : Value) : EV b (W.setCell ⟨gr, j, none⟩ u) g L f v0 v1 vn q0 q1 r0 r1 := by
  have ne : ∀ c : Nat, c ≠ 9 → ∀ k, f k = c → k ≠ (⟨gr, j, none⟩ : Addr).block := fun c hc k hk e => hc (by rw [← hk, e]; exact hf)
  exact ⟨blk_far h.blk (ne 7 (by decide) g h.own) u, h.low, h.own, Kd.Q_far h.h0 (ne 0 (by decide)) u, Kd.Q_far h.h1 (ne 1 (by decide)) u, Kd.R_far h.hn (ne 2 (by decide)) u, Kd.R_far h.hp0 (ne 3 (by decide)) u, Kd.R_far h.hp1 (ne 4 (by decide)) u, Kd.R_far h.hc0 (ne 5 (by decide)) u, Kd.R_far h.hc1 (ne 6 (by decide)) u⟩
theorem grown_self (W : World) (row : Option Nat) : W.grownBy W row := ⟨rfl, rfl, rfl, Nat.le_refl _, fun _ _ _ => rfl⟩
theorem EV.setNet2 (h : EV b W g L f v0 v1 vn q0 q1 r0 r1) {net : List S65} (hb : Below W.heap.size W W1) (ho : k65.R 65 W1 b (fun k => W.heap.size ≤ k) v net) :
    ∃ f', (∀ k, k < W.heap.size → f' k = f k) ∧ EV b (W1.setCell ⟨g, 10, none⟩ v) g { L with net := net } f' v0 v1 v q0 q1 r0 r1 := by
  obtain ⟨f', h1, h2⟩ := (h.fresh hb 2).setNet (grown_self W1 vn.ownBlock) (Kd.R_mono ho (fun k hk => .inl (by unfold tagf; rw [if_pos hk])))
  exact ⟨f', fun k hk => (h1 k (Nat.lt_of_lt_of_le hk hb.size)).trans (tag_old hk), h2⟩
end
def EndsF (b : Nat) (W : World) (g : Nat) (L : LS) (f : Nat → Nat) : Prop := ∃ v0 v1 vn q0 q1 r0 r1, EV b W g L f v0 v1 vn q0 q1 r0 r1
def Ends (b : Nat) (W : World) (g : Nat) (L : LS) : Prop := ∃ f, EndsF b W g L f
def Kept9 (w W : World) (f f' : Nat → Nat) : Prop := ∀ k, k < w.heap.size → f k = 9 → f' k = 9 ∧ W.heap[k]? = w.heap[k]?
structure CI (b : Nat) (w : World) (g : Nat) (L : LS) (gp : Nat) (p : S65) (who : Nat) (v0 v1 vn q0 q1 r0 r1 : Value) (oy oc : Option Nat) (r : Option (Value × List ByteArray)) (W : World) : Prop where
  ev : ∃ f, EV b W g L f v0 v1 vn q0 q1 r0 r1 ∧ f gp = 9 ∧ (∀ gy, oy = some gy → f gy = 9) ∧ (∀ gc, oc = some gc → f gc = 9) ∧ (∀ v l, r = some (v, l) → Kd.Q Kd.string 9 W b (fun k => f k = who) v l)
  bp : W.heap[gp]? = some (.cells #[.int .i64 p.f0, .string p.f1, .bool p.f2] 65 (0, 0))
  ye : ∀ gy, oy = some gy → W.heap[gy]? = some (.cells #[.int .i64 0, .int .i64 0, .int .i64 0, .slice none 0 0, .int .i64 0] 24 (0, 0))
  ce : ∀ gc, oc = some gc → W.heap[gc]? = some (.cells #[.string ⟨#[]⟩, .bool false, .string ⟨#[]⟩, .bool false] 45 (0, 0))
  hb : Below b w W
  hs : b ≤ W.heap.size
  ly : ∀ gy, oy = some gy → b ≤ gy
  lc : ∀ gc, oc = some gc → b ≤ gc
section
variable {b g gp who : Nat} {w W W1 : World} {L : LS} {p : S65} {v0 v1 vn q0 q1 r0 r1 : Value} {oy oc : Option Nat} {r : Option (Value × List ByteArray)}
theorem CI.blk (h : CI b w g L gp p who v0 v1 vn q0 q1 r0 r1 oy oc r W) : W.heap[g]? = some (.cells (cellsE L v0 v1 vn q0 q1 r0 r1) 61 (0, 0)) := by obtain ⟨f, h, _⟩ := h.ev; exact h.blk
theorem CI.step (h : CI b w g L gp p who v0 v1 vn q0 q1 r0 r1 oy oc r W) (hb : Below W.heap.size W W1) (i : Nat) :
    (∃ f, EV b W1 g L f v0 v1 vn q0 q1 r0 r1 ∧ f gp = 9 ∧ (∀ gy, oy = some gy → f gy = 9) ∧ (∀ gc, oc = some gc → f gc = 9) ∧ (∀ v l, r = some (v, l) → Kd.Q Kd.string 9 W1 b (fun k => f k = who) v l) ∧ (∀ k, W.heap.size ≤ k → f k = i)) ∧ Below b w W1 ∧ b ≤ W1.heap.size := by
  obtain ⟨f, he, hp, hy, hc, hq⟩ := h.ev
  refine ⟨⟨tagf f W.heap.size i, he.fresh hb i, (tag_old (blk_lt h.bp)).trans hp, fun gy e => (tag_old (blk_lt (h.ye gy e))).trans (hy gy e), fun gc e => (tag_old (blk_lt (h.ce gc e))).trans (hc gc e), fun v l e => Kd.Q_mono (Kd.Q_below (Kd.Q_bound (hq v l e)) hb) (fun k hk => by rw [tag_old hk.2.2.1]; exact hk.1), fun k hk => by unfold tagf; rw [if_pos hk]⟩, h.hb.trans (hb.mono h.hs), Nat.le_trans h.hs hb.size⟩
theorem CI.drew (h : CI b w g L gp p who v0 v1 vn q0 q1 r0 r1 oy oc r W) : CI b w g L gp p who v0 v1 vn q0 q1 r0 r1 oy oc r W.drew := by
  obtain ⟨⟨f, he, hp, hy, hc, hq, _⟩, h2, h3⟩ := h.step (below_drew1 (Below.refl _ _)) 9
  exact ⟨⟨f, he, hp, hy, hc, hq⟩, blk_drew h.bp, fun gy e => blk_drew (h.ye gy e), fun gc e => blk_drew (h.ce gc e), h2, h3, h.ly, h.lc⟩
theorem CI.allocY (h : CI b w g L gp p who v0 v1 vn q0 q1 r0 r1 none oc r W) : CI b w g L gp p who v0 v1 vn q0 q1 r0 r1 (some W.heap.size) oc r (W.alloc (.cells #[.int .i64 0, .int .i64 0, .int .i64 0, .slice none 0 0, .int .i64 0] 24 (0, 0))) := by
  have hb := below_alloc (Below.refl W.heap.size W) (.cells #[.int .i64 0, .int .i64 0, .int .i64 0, .slice none 0 0, .int .i64 0] 24 (0, 0))
  obtain ⟨⟨f, he, hp, hy, hc, hq, hn⟩, h2, h3⟩ := h.step hb 9
  exact ⟨⟨f, he, hp, fun gy e => by rw [← Option.some.inj e]; exact hn _ (Nat.le_refl _), hc, hq⟩, blk_below h.bp hb, fun gy e => by rw [← Option.some.inj e]; exact blk_new W _, fun gc e => blk_below (h.ce gc e) hb, h2, h3, fun gy e => by rw [← Option.some.inj e]; exact h.hs, h.lc⟩
theorem CI.allocC (h : CI b w g L gp p who v0 v1 vn q0 q1 r0 r1 oy none r W) : CI b w g L gp p who v0 v1 vn q0 q1 r0 r1 oy (some W.heap.size) r (W.alloc (.cells #[.string ⟨#[]⟩, .bool false, .string ⟨#[]⟩, .bool false] 45 (0, 0))) := by
  have hb := below_alloc (Below.refl W.heap.size W) (.cells #[.string ⟨#[]⟩, .bool false, .string ⟨#[]⟩, .bool false] 45 (0, 0))
  obtain ⟨⟨f, he, hp, hy, hc, hq, hn⟩, h2, h3⟩ := h.step hb 9
  exact ⟨⟨f, he, hp, hy, fun gc e => by rw [← Option.some.inj e]; exact hn _ (Nat.le_refl _), hq⟩, blk_below h.bp hb, fun gy e => blk_below (h.ye gy e) hb, fun gc e => by rw [← Option.some.inj e]; exact blk_new W _, h2, h3, h.ly, fun gc e => by rw [← Option.some.inj e]; exact h.hs⟩
theorem CI.call0 (h : CI b w g L gp p 0 v0 v1 vn q0 q1 r0 r1 oy oc none W) (hb : Below W.heap.size W W1) {A : Option Addr} {c : Nat} {v : Value} {l1 : List ByteArray} (hv : v0 = .slice A L.x0.f3.length c) (ho : link_Take.Out W1 W.heap.size A c L.x0.f3 v l1) :
    CI b w g L gp p 0 v0 v1 vn q0 q1 r0 r1 oy oc (some (v, l1)) W1 := by
  obtain ⟨⟨f, he, hp, hy, hc, _, hn⟩, h2, h3⟩ := h.step hb 0
  refine ⟨⟨f, he, hp, hy, hc, fun v' l' e => ?_⟩, blk_below h.bp hb, fun gy e => blk_below (h.ye gy e) hb, fun gc e => blk_below (h.ce gc e) hb, h2, h3, h.ly, h.lc⟩
  simp only [Option.some.injEq, Prod.mk.injEq] at e
  obtain ⟨rfl, rfl⟩ := e
  rcases ho with ⟨rfl, rfl⟩ | ho
  · rw [← hv]; exact he.h0
  · exact Kd.Q_lower (Kd.Q_mono (Kd.Q_bound ho) (fun k hk => hn k hk.2.1)) h.hs
theorem CI.call1 (h : CI b w g L gp p 1 v0 v1 vn q0 q1 r0 r1 oy oc none W) (hb : Below W.heap.size W W1) {A : Option Addr} {c : Nat} {v : Value} {l1 : List ByteArray} (hv : v1 = .slice A L.x1.f3.length c) (ho : link_Take.Out W1 W.heap.size A c L.x1.f3 v l1) :
    CI b w g L gp p 1 v0 v1 vn q0 q1 r0 r1 oy oc (some (v, l1)) W1 := by
  obtain ⟨⟨f, he, hp, hy, hc, _, hn⟩, h2, h3⟩ := h.step hb 1
  refine ⟨⟨f, he, hp, hy, hc, fun v' l' e => ?_⟩, blk_below h.bp hb, fun gy e => blk_below (h.ye gy e) hb, fun gc e => blk_below (h.ce gc e) hb, h2, h3, h.ly, h.lc⟩
  simp only [Option.some.injEq, Prod.mk.injEq] at e
  obtain ⟨rfl, rfl⟩ := e
  rcases ho with ⟨rfl, rfl⟩ | ho
  · rw [← hv]; exact he.h1
  · exact Kd.Q_lower (Kd.Q_mono (Kd.Q_bound ho) (fun k hk => hn k hk.2.1)) h.hs
theorem CI.start {f : Nat → Nat} (h : EV b w g L f v0 v1 vn q0 q1 r0 r1) (hs : b ≤ w.heap.size) (who : Nat) (p : S65) :
    CI b w g L w.heap.size p who v0 v1 vn q0 q1 r0 r1 none none none (w.alloc (.cells #[.int .i64 p.f0, .string p.f1, .bool p.f2] 65 (0, 0))) := by
  have hb := below_alloc (Below.refl w.heap.size w) (.cells #[.int .i64 p.f0, .string p.f1, .bool p.f2] 65 (0, 0))
  exact ⟨⟨tagf f w.heap.size 9, h.fresh hb 9, by unfold tagf; rw [if_pos (Nat.le_refl _)], (fun _ e => by cases e), (fun _ e => by cases e), (fun _ _ e => by cases e)⟩, blk_new w _, (fun _ e => by cases e), (fun _ e => by cases e), hb.mono hs, Nat.le_trans hs hb.size, (fun _ e => by cases e), (fun _ e => by cases e)⟩
end
structure DI (b : Nat) (w : World) (g : Nat) (L : LS) (gp : Nat) (p : S65) (who : Nat) (v0 v1 vn q0 q1 r0 r1 : Value) (gy gc : Nat) (Y C : Array Value) (v : Value) (l : List ByteArray) (W : World) : Prop where
  ev : ∃ f, EV b W g L f v0 v1 vn q0 q1 r0 r1 ∧ f gp = 9 ∧ f gy = 9 ∧ f gc = 9 ∧ Kd.Q Kd.string 9 W b (fun k => f k = who) v l
  bp : W.heap[gp]? = some (.cells #[.int .i64 p.f0, .string p.f1, .bool p.f2] 65 (0, 0))
  ye : W.heap[gy]? = some (.cells Y 24 (0, 0))
  ce : W.heap[gc]? = some (.cells C 45 (0, 0))
  hb : Below b w W
  hs : b ≤ W.heap.size
  ly : b ≤ gy
  lc : b ≤ gc
section
variable {b g gp who gy gc : Nat} {w W W1 : World} {L : LS} {p : S65} {v0 v1 vn q0 q1 r0 r1 v : Value} {l : List ByteArray} {Y C Y1 C1 : Array Value}
theorem DI.blk (h : DI b w g L gp p who v0 v1 vn q0 q1 r0 r1 gy gc Y C v l W) : W.heap[g]? = some (.cells (cellsE L v0 v1 vn q0 q1 r0 r1) 61 (0, 0)) := by obtain ⟨f, h, _⟩ := h.ev; exact h.blk
theorem DI.setY (h : DI b w g L gp p who v0 v1 vn q0 q1 r0 r1 gy gc Y C v l W) (hw : who < 9) (j : Nat) (u : Value) (e : Y.setIfInBounds j u = Y1) : DI b w g L gp p who v0 v1 vn q0 q1 r0 r1 gy gc Y1 C v l (W.setCell ⟨gy, j, none⟩ u) := by
  obtain ⟨f, he, h1, h2, h3, h4⟩ := h.ev
  refine ⟨⟨f, he.box h2 j u, h1, h2, h3, Kd.Q_far h4 (fun k hk e => by rw [show (⟨gy, j, none⟩ : Addr).block = gy from rfl] at e; subst e; omega) u⟩, blk_far h.bp (blk_ne h.bp h.ye (by decide)) u, blk_put h.ye j u e, blk_far h.ce (blk_ne h.ce h.ye (by decide)) u, h.hb.setCell h.ly u, by simpa [World.setCell] using h.hs, h.ly, h.lc⟩
theorem DI.setC (h : DI b w g L gp p who v0 v1 vn q0 q1 r0 r1 gy gc Y C v l W) (hw : who < 9) (j : Nat) (u : Value) (e : C.setIfInBounds j u = C1) : DI b w g L gp p who v0 v1 vn q0 q1 r0 r1 gy gc Y C1 v l (W.setCell ⟨gc, j, none⟩ u) := by
  obtain ⟨f, he, h1, h2, h3, h4⟩ := h.ev
  refine ⟨⟨f, he.box h3 j u, h1, h2, h3, Kd.Q_far h4 (fun k hk e => by rw [show (⟨gc, j, none⟩ : Addr).block = gc from rfl] at e; subst e; omega) u⟩, blk_far h.bp (blk_ne h.bp h.ce (by decide)) u, blk_far h.ye (blk_ne h.ye h.ce (by decide)) u, blk_put h.ce j u e, h.hb.setCell h.lc u, by simpa [World.setCell] using h.hs, h.ly, h.lc⟩
theorem DI.drew (h : DI b w g L gp p who v0 v1 vn q0 q1 r0 r1 gy gc Y C v l W) : DI b w g L gp p who v0 v1 vn q0 q1 r0 r1 gy gc Y C v l W.drew := by
  obtain ⟨f, he, h1, h2, h3, h4⟩ := h.ev
  exact ⟨⟨f, he.drew, h1, h2, h3, Kd.Q_drew h4⟩, blk_drew h.bp, blk_drew h.ye, blk_drew h.ce, below_drew h.hb, h.hs, h.ly, h.lc⟩
theorem DI.of (h : CI b w g L gp p who v0 v1 vn q0 q1 r0 r1 (some gy) (some gc) (some (v, l)) W) (ly : b ≤ gy) (lc : b ≤ gc) :
    DI b w g L gp p who v0 v1 vn q0 q1 r0 r1 gy gc #[.int .i64 0, .int .i64 0, .int .i64 0, .slice none 0 0, .int .i64 0] #[.string ⟨#[]⟩, .bool false, .string ⟨#[]⟩, .bool false] v l W := by
  obtain ⟨f, he, h1, h2, h3, h4⟩ := h.ev
  exact ⟨⟨f, he, h1, h2 _ rfl, h3 _ rfl, h4 _ _ rfl⟩, h.bp, h.ye _ rfl, h.ce _ rfl, h.hb, h.hs, ly, lc⟩
end
theorem EV.setX0 {b g : Nat} {W : World} {L : LS} {f : Nat → Nat} {v0 v1 vn q0 q1 r0 r1 v : Value} (h : EV b W g L f v0 v1 vn q0 q1 r0 r1) (x : S24) (hq : Kd.Q Kd.string 9 W b (fun k => f k = 0) v x.f3) :
    EV b (((((W.setCell ⟨g, 0, none⟩ (.int .i64 x.f0)).setCell ⟨g, 1, none⟩ (.int .i64 x.f1)).setCell ⟨g, 2, none⟩ (.int .i64 x.f2)).setCell ⟨g, 3, none⟩ (v)).setCell ⟨g, 4, none⟩ (.int .i64 x.f4)) g { L with x0 := x } f (v) v1 vn q0 q1 r0 r1 := by
  have ne : ∀ c : Nat, c ≠ 7 → ∀ k, f k = c → k ≠ g := fun c hc k hk e => hc (by rw [← hk, e]; exact h.own)
  exact ⟨(blk_put (blk_put (blk_put (blk_put (blk_put h.blk 0 (.int .i64 x.f0) rfl) 1 (.int .i64 x.f1) rfl) 2 (.int .i64 x.f2) rfl) 3 (v) rfl) 4 (.int .i64 x.f4) rfl), h.low, h.own, (Kd.Q_far (Kd.Q_far (Kd.Q_far (Kd.Q_far (Kd.Q_far hq (p := ⟨g, 0, none⟩) (ne 0 (by decide)) _) (p := ⟨g, 1, none⟩) (ne 0 (by decide)) _) (p := ⟨g, 2, none⟩) (ne 0 (by decide)) _) (p := ⟨g, 3, none⟩) (ne 0 (by decide)) _) (p := ⟨g, 4, none⟩) (ne 0 (by decide)) _), (Kd.Q_far (Kd.Q_far (Kd.Q_far (Kd.Q_far (Kd.Q_far h.h1 (p := ⟨g, 0, none⟩) (ne 1 (by decide)) _) (p := ⟨g, 1, none⟩) (ne 1 (by decide)) _) (p := ⟨g, 2, none⟩) (ne 1 (by decide)) _) (p := ⟨g, 3, none⟩) (ne 1 (by decide)) _) (p := ⟨g, 4, none⟩) (ne 1 (by decide)) _), (Kd.R_far (Kd.R_far (Kd.R_far (Kd.R_far (Kd.R_far h.hn (p := ⟨g, 0, none⟩) (ne 2 (by decide)) _) (p := ⟨g, 1, none⟩) (ne 2 (by decide)) _) (p := ⟨g, 2, none⟩) (ne 2 (by decide)) _) (p := ⟨g, 3, none⟩) (ne 2 (by decide)) _) (p := ⟨g, 4, none⟩) (ne 2 (by decide)) _), (Kd.R_far (Kd.R_far (Kd.R_far (Kd.R_far (Kd.R_far h.hp0 (p := ⟨g, 0, none⟩) (ne 3 (by decide)) _) (p := ⟨g, 1, none⟩) (ne 3 (by decide)) _) (p := ⟨g, 2, none⟩) (ne 3 (by decide)) _) (p := ⟨g, 3, none⟩) (ne 3 (by decide)) _) (p := ⟨g, 4, none⟩) (ne 3 (by decide)) _), (Kd.R_far (Kd.R_far (Kd.R_far (Kd.R_far (Kd.R_far h.hp1 (p := ⟨g, 0, none⟩) (ne 4 (by decide)) _) (p := ⟨g, 1, none⟩) (ne 4 (by decide)) _) (p := ⟨g, 2, none⟩) (ne 4 (by decide)) _) (p := ⟨g, 3, none⟩) (ne 4 (by decide)) _) (p := ⟨g, 4, none⟩) (ne 4 (by decide)) _), (Kd.R_far (Kd.R_far (Kd.R_far (Kd.R_far (Kd.R_far h.hc0 (p := ⟨g, 0, none⟩) (ne 5 (by decide)) _) (p := ⟨g, 1, none⟩) (ne 5 (by decide)) _) (p := ⟨g, 2, none⟩) (ne 5 (by decide)) _) (p := ⟨g, 3, none⟩) (ne 5 (by decide)) _) (p := ⟨g, 4, none⟩) (ne 5 (by decide)) _), (Kd.R_far (Kd.R_far (Kd.R_far (Kd.R_far (Kd.R_far h.hc1 (p := ⟨g, 0, none⟩) (ne 6 (by decide)) _) (p := ⟨g, 1, none⟩) (ne 6 (by decide)) _) (p := ⟨g, 2, none⟩) (ne 6 (by decide)) _) (p := ⟨g, 3, none⟩) (ne 6 (by decide)) _) (p := ⟨g, 4, none⟩) (ne 6 (by decide)) _)⟩
theorem EV.setX1 {b g : Nat} {W : World} {L : LS} {f : Nat → Nat} {v0 v1 vn q0 q1 r0 r1 v : Value} (h : EV b W g L f v0 v1 vn q0 q1 r0 r1) (x : S24) (hq : Kd.Q Kd.string 9 W b (fun k => f k = 1) v x.f3) :
    EV b (((((W.setCell ⟨g, 5, none⟩ (.int .i64 x.f0)).setCell ⟨g, 6, none⟩ (.int .i64 x.f1)).setCell ⟨g, 7, none⟩ (.int .i64 x.f2)).setCell ⟨g, 8, none⟩ (v)).setCell ⟨g, 9, none⟩ (.int .i64 x.f4)) g { L with x1 := x } f v0 (v) vn q0 q1 r0 r1 := by
  have ne : ∀ c : Nat, c ≠ 7 → ∀ k, f k = c → k ≠ g := fun c hc k hk e => hc (by rw [← hk, e]; exact h.own)
  exact ⟨(blk_put (blk_put (blk_put (blk_put (blk_put h.blk 5 (.int .i64 x.f0) rfl) 6 (.int .i64 x.f1) rfl) 7 (.int .i64 x.f2) rfl) 8 (v) rfl) 9 (.int .i64 x.f4) rfl), h.low, h.own, (Kd.Q_far (Kd.Q_far (Kd.Q_far (Kd.Q_far (Kd.Q_far h.h0 (p := ⟨g, 5, none⟩) (ne 0 (by decide)) _) (p := ⟨g, 6, none⟩) (ne 0 (by decide)) _) (p := ⟨g, 7, none⟩) (ne 0 (by decide)) _) (p := ⟨g, 8, none⟩) (ne 0 (by decide)) _) (p := ⟨g, 9, none⟩) (ne 0 (by decide)) _), (Kd.Q_far (Kd.Q_far (Kd.Q_far (Kd.Q_far (Kd.Q_far hq (p := ⟨g, 5, none⟩) (ne 1 (by decide)) _) (p := ⟨g, 6, none⟩) (ne 1 (by decide)) _) (p := ⟨g, 7, none⟩) (ne 1 (by decide)) _) (p := ⟨g, 8, none⟩) (ne 1 (by decide)) _) (p := ⟨g, 9, none⟩) (ne 1 (by decide)) _), (Kd.R_far (Kd.R_far (Kd.R_far (Kd.R_far (Kd.R_far h.hn (p := ⟨g, 5, none⟩) (ne 2 (by decide)) _) (p := ⟨g, 6, none⟩) (ne 2 (by decide)) _) (p := ⟨g, 7, none⟩) (ne 2 (by decide)) _) (p := ⟨g, 8, none⟩) (ne 2 (by decide)) _) (p := ⟨g, 9, none⟩) (ne 2 (by decide)) _), (Kd.R_far (Kd.R_far (Kd.R_far (Kd.R_far (Kd.R_far h.hp0 (p := ⟨g, 5, none⟩) (ne 3 (by decide)) _) (p := ⟨g, 6, none⟩) (ne 3 (by decide)) _) (p := ⟨g, 7, none⟩) (ne 3 (by decide)) _) (p := ⟨g, 8, none⟩) (ne 3 (by decide)) _) (p := ⟨g, 9, none⟩) (ne 3 (by decide)) _), (Kd.R_far (Kd.R_far (Kd.R_far (Kd.R_far (Kd.R_far h.hp1 (p := ⟨g, 5, none⟩) (ne 4 (by decide)) _) (p := ⟨g, 6, none⟩) (ne 4 (by decide)) _) (p := ⟨g, 7, none⟩) (ne 4 (by decide)) _) (p := ⟨g, 8, none⟩) (ne 4 (by decide)) _) (p := ⟨g, 9, none⟩) (ne 4 (by decide)) _), (Kd.R_far (Kd.R_far (Kd.R_far (Kd.R_far (Kd.R_far h.hc0 (p := ⟨g, 5, none⟩) (ne 5 (by decide)) _) (p := ⟨g, 6, none⟩) (ne 5 (by decide)) _) (p := ⟨g, 7, none⟩) (ne 5 (by decide)) _) (p := ⟨g, 8, none⟩) (ne 5 (by decide)) _) (p := ⟨g, 9, none⟩) (ne 5 (by decide)) _), (Kd.R_far (Kd.R_far (Kd.R_far (Kd.R_far (Kd.R_far h.hc1 (p := ⟨g, 5, none⟩) (ne 6 (by decide)) _) (p := ⟨g, 6, none⟩) (ne 6 (by decide)) _) (p := ⟨g, 7, none⟩) (ne 6 (by decide)) _) (p := ⟨g, 8, none⟩) (ne 6 (by decide)) _) (p := ⟨g, 9, none⟩) (ne 6 (by decide)) _)⟩
theorem EV.set_p0 {b g : Nat} {W W1 : World} {L : LS} {f : Nat → Nat} {v0 v1 vn q0 q1 r0 r1 v : Value} (h : EV b W g L f v0 v1 vn q0 q1 r0 r1) {l : List ByteArray} (hg : W.grownBy W1 q0.ownBlock) (ho : Kd.string.R 9 W1 b (fun k => f k = 3 ∨ W.heap.size ≤ k) v l) :
    ∃ f', (∀ k, k < W.heap.size → f' k = f k) ∧ EV b (W1.setCell ⟨g, 11, none⟩ v) g { L with p0 := l } f' v0 v1 vn v q1 r0 r1 := by
  have hl := h.lt
  have k1 := keep_grown hg h.hp0.1
  have gne : f g ≠ 3 := by rw [h.own]; decide
  have hb1 : W1.heap[g]? = some (.cells (cellsE L v0 v1 vn q0 q1 r0 r1) 61 (0, 0)) := (k1 g hl gne).trans h.blk
  have own1 : tagf f W.heap.size 3 g = 7 := (tag_old hl).trans h.own
  have k2 := keep_set (W := W1) (g := g) (j := 11) (u := v) own1
  have ho2 : Kd.string.R 9 W1 b (fun k => tagf f W.heap.size 3 k = 3) v l := Kd.R_mono ho (fun k hk => by
    unfold tagf
    by_cases hk2 : W.heap.size ≤ k
    · rw [if_pos hk2]
    · rw [if_neg hk2]
      rcases hk with hk | hk
      · exact hk
      · exact absurd hk hk2)
  have t0 := Q_tag h.h0 k1 (by decide)
  have t1 := Q_tag h.h1 k1 (by decide)
  have t2 := R_tag h.hn k1 (by decide)
  have t4 := R_tag h.hp1 k1 (by decide)
  have t5 := R_tag h.hc0 k1 (by decide)
  have t6 := R_tag h.hc1 k1 (by decide)
  exact ⟨tagf (tagf f W.heap.size 3) W1.heap.size 7, fun k hk => (tag_old (Nat.lt_of_lt_of_le hk hg.size)).trans (tag_old hk), blk_put hb1 11 v rfl, h.low, (tag_old (blk_lt hb1)).trans own1, Q_tag t0 k2 (by decide), Q_tag t1 k2 (by decide), R_tag t2 k2 (by decide), R_tag ho2 k2 (by decide), R_tag t4 k2 (by decide), R_tag t5 k2 (by decide), R_tag t6 k2 (by decide)⟩
theorem EV.set_p1 {b g : Nat} {W W1 : World} {L : LS} {f : Nat → Nat} {v0 v1 vn q0 q1 r0 r1 v : Value} (h : EV b W g L f v0 v1 vn q0 q1 r0 r1) {l : List ByteArray} (hg : W.grownBy W1 q1.ownBlock) (ho : Kd.string.R 9 W1 b (fun k => f k = 4 ∨ W.heap.size ≤ k) v l) :
    ∃ f', (∀ k, k < W.heap.size → f' k = f k) ∧ EV b (W1.setCell ⟨g, 12, none⟩ v) g { L with p1 := l } f' v0 v1 vn q0 v r0 r1 := by
  have hl := h.lt
  have k1 := keep_grown hg h.hp1.1
  have gne : f g ≠ 4 := by rw [h.own]; decide
  have hb1 : W1.heap[g]? = some (.cells (cellsE L v0 v1 vn q0 q1 r0 r1) 61 (0, 0)) := (k1 g hl gne).trans h.blk
  have own1 : tagf f W.heap.size 4 g = 7 := (tag_old hl).trans h.own
  have k2 := keep_set (W := W1) (g := g) (j := 12) (u := v) own1
  have ho2 : Kd.string.R 9 W1 b (fun k => tagf f W.heap.size 4 k = 4) v l := Kd.R_mono ho (fun k hk => by
    unfold tagf
    by_cases hk2 : W.heap.size ≤ k
    · rw [if_pos hk2]
    · rw [if_neg hk2]
      rcases hk with hk | hk
      · exact hk
      · exact absurd hk hk2)
  have t0 := Q_tag h.h0 k1 (by decide)
  have t1 := Q_tag h.h1 k1 (by decide)
  have t2 := R_tag h.hn k1 (by decide)
  have t3 := R_tag h.hp0 k1 (by decide)
  have t5 := R_tag h.hc0 k1 (by decide)
  have t6 := R_tag h.hc1 k1 (by decide)
  exact ⟨tagf (tagf f W.heap.size 4) W1.heap.size 7, fun k hk => (tag_old (Nat.lt_of_lt_of_le hk hg.size)).trans (tag_old hk), blk_put hb1 12 v rfl, h.low, (tag_old (blk_lt hb1)).trans own1, Q_tag t0 k2 (by decide), Q_tag t1 k2 (by decide), R_tag t2 k2 (by decide), R_tag t3 k2 (by decide), R_tag ho2 k2 (by decide), R_tag t5 k2 (by decide), R_tag t6 k2 (by decide)⟩
theorem EV.set_c0 {b g : Nat} {W W1 : World} {L : LS} {f : Nat → Nat} {v0 v1 vn q0 q1 r0 r1 v : Value} (h : EV b W g L f v0 v1 vn q0 q1 r0 r1) {l : List ByteArray} (hg : W.grownBy W1 r0.ownBlock) (ho : Kd.string.R 9 W1 b (fun k => f k = 5 ∨ W.heap.size ≤ k) v l) :
    ∃ f', (∀ k, k < W.heap.size → f' k = f k) ∧ EV b (W1.setCell ⟨g, 13, none⟩ v) g { L with c0 := l } f' v0 v1 vn q0 q1 v r1 := by
  have hl := h.lt
  have k1 := keep_grown hg h.hc0.1
  have gne : f g ≠ 5 := by rw [h.own]; decide
  have hb1 : W1.heap[g]? = some (.cells (cellsE L v0 v1 vn q0 q1 r0 r1) 61 (0, 0)) := (k1 g hl gne).trans h.blk
  have own1 : tagf f W.heap.size 5 g = 7 := (tag_old hl).trans h.own
  have k2 := keep_set (W := W1) (g := g) (j := 13) (u := v) own1
  have ho2 : Kd.string.R 9 W1 b (fun k => tagf f W.heap.size 5 k = 5) v l := Kd.R_mono ho (fun k hk => by
    unfold tagf
    by_cases hk2 : W.heap.size ≤ k
    · rw [if_pos hk2]
    · rw [if_neg hk2]
      rcases hk with hk | hk
      · exact hk
      · exact absurd hk hk2)
  have t0 := Q_tag h.h0 k1 (by decide)
  have t1 := Q_tag h.h1 k1 (by decide)
  have t2 := R_tag h.hn k1 (by decide)
  have t3 := R_tag h.hp0 k1 (by decide)
  have t4 := R_tag h.hp1 k1 (by decide)
  have t6 := R_tag h.hc1 k1 (by decide)
  exact ⟨tagf (tagf f W.heap.size 5) W1.heap.size 7, fun k hk => (tag_old (Nat.lt_of_lt_of_le hk hg.size)).trans (tag_old hk), blk_put hb1 13 v rfl, h.low, (tag_old (blk_lt hb1)).trans own1, Q_tag t0 k2 (by decide), Q_tag t1 k2 (by decide), R_tag t2 k2 (by decide), R_tag t3 k2 (by decide), R_tag t4 k2 (by decide), R_tag ho2 k2 (by decide), R_tag t6 k2 (by decide)⟩
theorem EV.set_c1 {b g : Nat} {W W1 : World} {L : LS} {f : Nat → Nat} {v0 v1 vn q0 q1 r0 r1 v : Value} (h : EV b W g L f v0 v1 vn q0 q1 r0 r1) {l : List ByteArray} (hg : W.grownBy W1 r1.ownBlock) (ho : Kd.string.R 9 W1 b (fun k => f k = 6 ∨ W.heap.size ≤ k) v l) :
    ∃ f', (∀ k, k < W.heap.size → f' k = f k) ∧ EV b (W1.setCell ⟨g, 14, none⟩ v) g { L with c1 := l } f' v0 v1 vn q0 q1 r0 v := by
  have hl := h.lt
  have k1 := keep_grown hg h.hc1.1
  have gne : f g ≠ 6 := by rw [h.own]; decide
  have hb1 : W1.heap[g]? = some (.cells (cellsE L v0 v1 vn q0 q1 r0 r1) 61 (0, 0)) := (k1 g hl gne).trans h.blk
  have own1 : tagf f W.heap.size 6 g = 7 := (tag_old hl).trans h.own
  have k2 := keep_set (W := W1) (g := g) (j := 14) (u := v) own1
  have ho2 : Kd.string.R 9 W1 b (fun k => tagf f W.heap.size 6 k = 6) v l := Kd.R_mono ho (fun k hk => by
    unfold tagf
    by_cases hk2 : W.heap.size ≤ k
    · rw [if_pos hk2]
    · rw [if_neg hk2]
      rcases hk with hk | hk
      · exact hk
      · exact absurd hk hk2)
  have t0 := Q_tag h.h0 k1 (by decide)
  have t1 := Q_tag h.h1 k1 (by decide)
  have t2 := R_tag h.hn k1 (by decide)
  have t3 := R_tag h.hp0 k1 (by decide)
  have t4 := R_tag h.hp1 k1 (by decide)
  have t5 := R_tag h.hc0 k1 (by decide)
  exact ⟨tagf (tagf f W.heap.size 6) W1.heap.size 7, fun k hk => (tag_old (Nat.lt_of_lt_of_le hk hg.size)).trans (tag_old hk), blk_put hb1 14 v rfl, h.low, (tag_old (blk_lt hb1)).trans own1, Q_tag t0 k2 (by decide), Q_tag t1 k2 (by decide), R_tag t2 k2 (by decide), R_tag t3 k2 (by decide), R_tag t4 k2 (by decide), R_tag t5 k2 (by decide), R_tag ho2 k2 (by decide)⟩
theorem DI.setX0 {b g gp gy gc : Nat} {w W : World} {L : LS} {p : S65} {v0 v1 vn q0 q1 r0 r1 v : Value} {l : List ByteArray} {Y C : Array Value} (h : DI b w g L gp p 0 v0 v1 vn q0 q1 r0 r1 gy gc Y C v l W) (x : S24) (hl : x.f3 = l) :
    DI b w g { L with x0 := x } gp p 0 v v1 vn q0 q1 r0 r1 gy gc Y C v l (((((W.setCell ⟨g, 0, none⟩ (.int .i64 x.f0)).setCell ⟨g, 1, none⟩ (.int .i64 x.f1)).setCell ⟨g, 2, none⟩ (.int .i64 x.f2)).setCell ⟨g, 3, none⟩ (v)).setCell ⟨g, 4, none⟩ (.int .i64 x.f4)) := by
  obtain ⟨f, he, h1, h2, h3, h4⟩ := h.ev
  have nb : ∀ k, f k = 9 → k ≠ g := fun k hk e => by rw [e, he.own] at hk; cases hk
  have nq : ∀ k, f k = 0 → k ≠ g := fun k hk e => by rw [e, he.own] at hk; cases hk
  refine ⟨⟨f, he.setX0 x (by rw [hl]; exact h4), h1, h2, h3, (Kd.Q_far (Kd.Q_far (Kd.Q_far (Kd.Q_far (Kd.Q_far h4 (p := ⟨g, 0, none⟩) nq _) (p := ⟨g, 1, none⟩) nq _) (p := ⟨g, 2, none⟩) nq _) (p := ⟨g, 3, none⟩) nq _) (p := ⟨g, 4, none⟩) nq _)⟩, ?_, ?_, ?_, (((((h.hb.setCell (p := ⟨g, 0, none⟩) he.low _).setCell (p := ⟨g, 1, none⟩) he.low _).setCell (p := ⟨g, 2, none⟩) he.low _).setCell (p := ⟨g, 3, none⟩) he.low _).setCell (p := ⟨g, 4, none⟩) he.low _), by simpa [World.setCell] using h.hs, h.ly, h.lc⟩
  · have nn := nb gp h1
    exact (blk_far (blk_far (blk_far (blk_far (blk_far h.bp (p := ⟨g, 0, none⟩) nn _) (p := ⟨g, 1, none⟩) nn _) (p := ⟨g, 2, none⟩) nn _) (p := ⟨g, 3, none⟩) nn _) (p := ⟨g, 4, none⟩) nn _)
  · have nn := nb gy h2
    exact (blk_far (blk_far (blk_far (blk_far (blk_far h.ye (p := ⟨g, 0, none⟩) nn _) (p := ⟨g, 1, none⟩) nn _) (p := ⟨g, 2, none⟩) nn _) (p := ⟨g, 3, none⟩) nn _) (p := ⟨g, 4, none⟩) nn _)
  · have nn := nb gc h3
    exact (blk_far (blk_far (blk_far (blk_far (blk_far h.ce (p := ⟨g, 0, none⟩) nn _) (p := ⟨g, 1, none⟩) nn _) (p := ⟨g, 2, none⟩) nn _) (p := ⟨g, 3, none⟩) nn _) (p := ⟨g, 4, none⟩) nn _)
theorem DI.setX1 {b g gp gy gc : Nat} {w W : World} {L : LS} {p : S65} {v0 v1 vn q0 q1 r0 r1 v : Value} {l : List ByteArray} {Y C : Array Value} (h : DI b w g L gp p 1 v0 v1 vn q0 q1 r0 r1 gy gc Y C v l W) (x : S24) (hl : x.f3 = l) :
    DI b w g { L with x1 := x } gp p 1 v0 v vn q0 q1 r0 r1 gy gc Y C v l (((((W.setCell ⟨g, 5, none⟩ (.int .i64 x.f0)).setCell ⟨g, 6, none⟩ (.int .i64 x.f1)).setCell ⟨g, 7, none⟩ (.int .i64 x.f2)).setCell ⟨g, 8, none⟩ (v)).setCell ⟨g, 9, none⟩ (.int .i64 x.f4)) := by
  obtain ⟨f, he, h1, h2, h3, h4⟩ := h.ev
  have nb : ∀ k, f k = 9 → k ≠ g := fun k hk e => by rw [e, he.own] at hk; cases hk
  have nq : ∀ k, f k = 1 → k ≠ g := fun k hk e => by rw [e, he.own] at hk; cases hk
  refine ⟨⟨f, he.setX1 x (by rw [hl]; exact h4), h1, h2, h3, (Kd.Q_far (Kd.Q_far (Kd.Q_far (Kd.Q_far (Kd.Q_far h4 (p := ⟨g, 5, none⟩) nq _) (p := ⟨g, 6, none⟩) nq _) (p := ⟨g, 7, none⟩) nq _) (p := ⟨g, 8, none⟩) nq _) (p := ⟨g, 9, none⟩) nq _)⟩, ?_, ?_, ?_, (((((h.hb.setCell (p := ⟨g, 5, none⟩) he.low _).setCell (p := ⟨g, 6, none⟩) he.low _).setCell (p := ⟨g, 7, none⟩) he.low _).setCell (p := ⟨g, 8, none⟩) he.low _).setCell (p := ⟨g, 9, none⟩) he.low _), by simpa [World.setCell] using h.hs, h.ly, h.lc⟩
  · have nn := nb gp h1
    exact (blk_far (blk_far (blk_far (blk_far (blk_far h.bp (p := ⟨g, 5, none⟩) nn _) (p := ⟨g, 6, none⟩) nn _) (p := ⟨g, 7, none⟩) nn _) (p := ⟨g, 8, none⟩) nn _) (p := ⟨g, 9, none⟩) nn _)
  · have nn := nb gy h2
    exact (blk_far (blk_far (blk_far (blk_far (blk_far h.ye (p := ⟨g, 5, none⟩) nn _) (p := ⟨g, 6, none⟩) nn _) (p := ⟨g, 7, none⟩) nn _) (p := ⟨g, 8, none⟩) nn _) (p := ⟨g, 9, none⟩) nn _)
  · have nn := nb gc h3
    exact (blk_far (blk_far (blk_far (blk_far (blk_far h.ce (p := ⟨g, 5, none⟩) nn _) (p := ⟨g, 6, none⟩) nn _) (p := ⟨g, 7, none⟩) nn _) (p := ⟨g, 8, none⟩) nn _) (p := ⟨g, 9, none⟩) nn _)
structure PI (b : Nat) (w : World) (g : Nat) (L : LS) (who : Nat) (v0 v1 vn q0 q1 r0 r1 : Value) (gy : Nat) (Y : Array Value) (v : Value) (l : List ByteArray) (W : World) : Prop where
  ev : ∃ f, EV b W g L f v0 v1 vn q0 q1 r0 r1 ∧ f gy = 9 ∧ Kd.Q Kd.string 9 W b (fun k => f k = who) v l
  ye : W.heap[gy]? = some (.cells Y 24 (0, 0))
  hb : Below b w W
  hs : b ≤ W.heap.size
theorem PI.blk {b g who gy : Nat} {w W : World} {L : LS} {v0 v1 vn q0 q1 r0 r1 v : Value} {l : List ByteArray} {Y : Array Value} (h : PI b w g L who v0 v1 vn q0 q1 r0 r1 gy Y v l W) : W.heap[g]? = some (.cells (cellsE L v0 v1 vn q0 q1 r0 r1) 61 (0, 0)) := by obtain ⟨f, h, _⟩ := h.ev; exact h.blk
theorem PI.drew {b g who gy : Nat} {w W : World} {L : LS} {v0 v1 vn q0 q1 r0 r1 v : Value} {l : List ByteArray} {Y : Array Value} (h : PI b w g L who v0 v1 vn q0 q1 r0 r1 gy Y v l W) : PI b w g L who v0 v1 vn q0 q1 r0 r1 gy Y v l W.drew := by
  obtain ⟨f, he, h1, h4⟩ := h.ev
  exact ⟨⟨f, he.drew, h1, Kd.Q_drew h4⟩, blk_drew h.ye, below_drew h.hb, h.hs⟩
theorem PI.start {b g : Nat} {w w1 : World} {L : LS} {f : Nat → Nat} {v0 v1 vn q0 q1 r0 r1 v : Value} {l : List ByteArray} (h : EV b w g L f v0 v1 vn q0 q1 r0 r1) (hs : b ≤ w.heap.size) (hb1 : Below w.heap.size w w1) (ho : Kd.string.R 9 w1 w.heap.size (fun _ => True) v l) (who : Nat) (Y : Array Value) :
    PI b w g L who v0 v1 vn q0 q1 r0 r1 w1.heap.size Y v l (w1.alloc (.cells Y 24 (0, 0))) := by
  have h1 := h.fresh hb1 who
  have hq : Kd.Q Kd.string 9 w1 b (fun k => tagf f w.heap.size who k = who) v l := Kd.Q_lower (Kd.Q_mono (Kd.Q_bound (Kd.Q_of_R ho)) (fun k hk => by unfold tagf; rw [if_pos hk.2.1])) hs
  have hb := below_alloc (Below.refl w1.heap.size w1) (.cells Y 24 (0, 0))
  exact ⟨⟨_, h1.fresh hb 9, by unfold tagf; rw [if_pos (Nat.le_refl _)], Kd.Q_mono (Kd.Q_below (Kd.Q_bound hq) hb) (fun k hk => by rw [tag_old hk.2.2.1]; exact hk.1)⟩, blk_new w1 _, (hb1.mono hs).trans (hb.mono (Nat.le_trans hs hb1.size)), Nat.le_trans (Nat.le_trans hs hb1.size) hb.size⟩
theorem PI.setX0 {b g gy : Nat} {w W : World} {L : LS} {v0 v1 vn q0 q1 r0 r1 v : Value} {l : List ByteArray} {Y : Array Value} (h : PI b w g L 0 v0 v1 vn q0 q1 r0 r1 gy Y v l W) (x : S24) (hl : x.f3 = l) :
    PI b w g { L with x0 := x } 0 v v1 vn q0 q1 r0 r1 gy Y v l (((((W.setCell ⟨g, 0, none⟩ (.int .i64 x.f0)).setCell ⟨g, 1, none⟩ (.int .i64 x.f1)).setCell ⟨g, 2, none⟩ (.int .i64 x.f2)).setCell ⟨g, 3, none⟩ (v)).setCell ⟨g, 4, none⟩ (.int .i64 x.f4)) := by
  obtain ⟨f, he, h2, h4⟩ := h.ev
  have nb : ∀ k, f k = 9 → k ≠ g := fun k hk e => by rw [e, he.own] at hk; cases hk
  have nq : ∀ k, f k = 0 → k ≠ g := fun k hk e => by rw [e, he.own] at hk; cases hk
  refine ⟨⟨f, he.setX0 x (by rw [hl]; exact h4), h2, (Kd.Q_far (Kd.Q_far (Kd.Q_far (Kd.Q_far (Kd.Q_far h4 (p := ⟨g, 0, none⟩) nq _) (p := ⟨g, 1, none⟩) nq _) (p := ⟨g, 2, none⟩) nq _) (p := ⟨g, 3, none⟩) nq _) (p := ⟨g, 4, none⟩) nq _)⟩, ?_, (((((h.hb.setCell (p := ⟨g, 0, none⟩) he.low _).setCell (p := ⟨g, 1, none⟩) he.low _).setCell (p := ⟨g, 2, none⟩) he.low _).setCell (p := ⟨g, 3, none⟩) he.low _).setCell (p := ⟨g, 4, none⟩) he.low _), by simpa [World.setCell] using h.hs⟩
  have nn := nb gy h2
  exact (blk_far (blk_far (blk_far (blk_far (blk_far h.ye (p := ⟨g, 0, none⟩) nn _) (p := ⟨g, 1, none⟩) nn _) (p := ⟨g, 2, none⟩) nn _) (p := ⟨g, 3, none⟩) nn _) (p := ⟨g, 4, none⟩) nn _)
theorem PI.setX1 {b g gy : Nat} {w W : World} {L : LS} {v0 v1 vn q0 q1 r0 r1 v : Value} {l : List ByteArray} {Y : Array Value} (h : PI b w g L 1 v0 v1 vn q0 q1 r0 r1 gy Y v l W) (x : S24) (hl : x.f3 = l) :
    PI b w g { L with x1 := x } 1 v0 v vn q0 q1 r0 r1 gy Y v l (((((W.setCell ⟨g, 5, none⟩ (.int .i64 x.f0)).setCell ⟨g, 6, none⟩ (.int .i64 x.f1)).setCell ⟨g, 7, none⟩ (.int .i64 x.f2)).setCell ⟨g, 8, none⟩ (v)).setCell ⟨g, 9, none⟩ (.int .i64 x.f4)) := by
  obtain ⟨f, he, h2, h4⟩ := h.ev
  have nb : ∀ k, f k = 9 → k ≠ g := fun k hk e => by rw [e, he.own] at hk; cases hk
  have nq : ∀ k, f k = 1 → k ≠ g := fun k hk e => by rw [e, he.own] at hk; cases hk
  refine ⟨⟨f, he.setX1 x (by rw [hl]; exact h4), h2, (Kd.Q_far (Kd.Q_far (Kd.Q_far (Kd.Q_far (Kd.Q_far h4 (p := ⟨g, 5, none⟩) nq _) (p := ⟨g, 6, none⟩) nq _) (p := ⟨g, 7, none⟩) nq _) (p := ⟨g, 8, none⟩) nq _) (p := ⟨g, 9, none⟩) nq _)⟩, ?_, (((((h.hb.setCell (p := ⟨g, 5, none⟩) he.low _).setCell (p := ⟨g, 6, none⟩) he.low _).setCell (p := ⟨g, 7, none⟩) he.low _).setCell (p := ⟨g, 8, none⟩) he.low _).setCell (p := ⟨g, 9, none⟩) he.low _), by simpa [World.setCell] using h.hs⟩
  have nn := nb gy h2
  exact (blk_far (blk_far (blk_far (blk_far (blk_far h.ye (p := ⟨g, 5, none⟩) nn _) (p := ⟨g, 6, none⟩) nn _) (p := ⟨g, 7, none⟩) nn _) (p := ⟨g, 8, none⟩) nn _) (p := ⟨g, 9, none⟩) nn _)
theorem EV.setPk {b g gn cn i : Nat} {W : World} {L : LS} {f : Nat → Nat} {v0 v1 q0 q1 r0 r1 : Value} (h : EV b W g L f v0 v1 (.slice (some ⟨gn, 0, none⟩) L.net.length cn) q0 q1 r0 r1) (hi : i < L.net.length) (p : S65) :
    EV b (((W.setCell ⟨gn, i * 3, none⟩ (.int .i64 p.f0)).setCell ⟨gn, i * 3 + 1, none⟩ (.string p.f1)).setCell ⟨gn, i * 3 + 2, none⟩ (.bool p.f2)) g { L with net := L.net.set i p } f v0 v1 (.slice (some ⟨gn, 0, none⟩) L.net.length cn) q0 q1 r0 r1 := by
  obtain ⟨c, hc1, _, hc3, _⟩ := Kd.R_elem h.hn z65 (i : Int) (by omega) (by omega)
  have fgn : f gn = 2 := h.hn.1 gn rfl
  have hM : k65.M W b (fun _ => False) p (c.take 0 ++ [.int .i64 p.f0, .string p.f1, .bool p.f2] ++ c.drop (0 + ([.int .i64 p.f0, .string p.f1, .bool p.f2] : List Value).length)) := by
    have hd : c.drop 3 = [] := List.drop_eq_nil_of_le (by rw [hc1]; exact Nat.le_refl 3)
    show k65.M W b _ p ([] ++ [.int .i64 p.f0, .string p.f1, .bool p.f2] ++ c.drop 3)
    rw [hd]
    exact k65_mkM _ _ _ p
  obtain ⟨hR, hG⟩ := Kd.R_seg h.hn (i : Int) (by omega) (by omega) hc1 hc3 (j := 0) (seg := [.int .i64 p.f0, .string p.f1, .bool p.f2]) (Nat.le_refl 3) hM (fun _ hk => hk.elim)
  have e : W.setCells gn ((i : Int).toNat * k65.sz + 0) [.int .i64 p.f0, .string p.f1, .bool p.f2] = ((W.setCell ⟨gn, i * 3, none⟩ (.int .i64 p.f0)).setCell ⟨gn, i * 3 + 1, none⟩ (.string p.f1)).setCell ⟨gn, i * 3 + 2, none⟩ (.bool p.f2) := rfl
  rw [e] at hR hG
  have hR2 : k65.R 65 _ b (fun k => f k = 2) (.slice (some ⟨gn, 0, none⟩) L.net.length cn) (L.net.set i p) := hR
  have keep : ∀ k, k < W.heap.size → f k ≠ 2 → _ := fun k hk hne => hG.block k hk (fun e => hne (by rw [Option.some.inj e]; exact fgn))
  have gR : ∀ {α : Type} {d : Kd α} {e j : Nat} {v : Value} {xs : List α}, j ≠ 2 → d.R e W b (fun k => f k = j) v xs → d.R e _ b (fun k => f k = j) v xs := fun hj h => Kd.R_mono (Kd.R_move (Kd.R_bound h) (fun k hk => keep k hk.2.2.1 (by rw [hk.1]; exact hj))) (fun k hk => hk.1)
  have gQ : ∀ {α : Type} {d : Kd α} {e j : Nat} {v : Value} {xs : List α}, j ≠ 2 → d.Q e W b (fun k => f k = j) v xs → d.Q e _ b (fun k => f k = j) v xs := fun hj h => Kd.Q_mono (Kd.Q_move (Kd.Q_bound h) (fun k hk => keep k hk.2.2.1 (by rw [hk.1]; exact hj))) (fun k hk => hk.1)
  exact ⟨(keep g h.lt (by rw [h.own]; decide)).trans h.blk, h.low, h.own, gQ (by decide) h.h0, gQ (by decide) h.h1, hR2, gR (by decide) h.hp0, gR (by decide) h.hp1, gR (by decide) h.hc0, gR (by decide) h.hc1⟩
def actK (a : S55) : Int := wrap64 ((IntKind.u64.wrap a.f0).tmod 12)
def LS.send (L : LS) (p : S65) : LS := if p.f1 ≠ (⟨#[]⟩ : ByteArray) ∧ L.net.length < 200 then { L with net := L.net ++ [p] } else L
end Go.Proofs.Ytgfmdfgibkkfaaa.P
