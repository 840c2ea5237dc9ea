import Derived.Test.YtgfmdfgibkkfaaaKtPx0
import Derived.Test.YtgfmdfgibkkfaaaKtPx10
import Derived.Test.YtgfmdfgibkkfaaaKtPx11
namespace Go.Proofs.Ytgfmdfgibkkfaaa.P
open Go.RowKit Go.Proofs.YtgfmdfgibkkfaaaW.PrintWords Go.Proofs.YtgfmdfgibkkfaaaW.PrintLast Go.Proofs.YtgfmdfgibkkfaaaW.PrintMore
attribute [local go_sem] max2_int min2_int max_two min_two max_three min_three max_four min_four
set_option linter.unusedVariables false
set_option linter.unusedSimpArgs false
structure counterfoilref15_Take.Res where
 o : Int
 f : Int
 w : Int
 l : List ByteArray
 s : ByteArray
 has : Bool
 reply : ByteArray
 anew : Bool
def counterfoilref15_Take.tail (k : Nat) (a o f w : Int) (l : List ByteArray) (anew : Bool) (kind n2 : Int) (s : ByteArray) : Option counterfoilref15_Take.Res :=
 if kind = 2 then some ⟨o, f, w, l, (⟨#[]⟩ : ByteArray), false, (⟨#[]⟩ : ByteArray), anew⟩ else
  (if n2 = w then
   (if w < 1099511627776 then (counterfoilref15_Packet.f k a o f (wrap64 (w + 1)) l 2 0 (⟨#[]⟩ : ByteArray)).bind fun t => some ⟨o, f, wrap64 (w + 1), l, s, true, t, anew⟩
   else (counterfoilref15_Packet.f k a o f w l 2 0 (⟨#[]⟩ : ByteArray)).bind fun t => some ⟨o, f, w, l, (⟨#[]⟩ : ByteArray), false, t, anew⟩)
  else (counterfoilref15_Packet.f k a o f w l 2 0 (⟨#[]⟩ : ByteArray)).bind fun t => some ⟨o, f, w, l, (⟨#[]⟩ : ByteArray), false, t, anew⟩)
def counterfoilref15_Take.rest (k : Nat) (a o f w : Int) (l : List ByteArray) (anew : Bool) (kind n1 n2 n3 : Int) (s : ByteArray) : Option counterfoilref15_Take.Res :=
 if n1 = a then
  (if (decide (0 ≤ wrap64 (n3 - f)) && decide (wrap64 (n3 - f) ≤ (l.length : Int))) = true then
   (if (l.drop (wrap64 (n3 - f)).toNat).length < 8796093022208 then counterfoilref15_Take.tail k a o n3 w (l.drop (wrap64 (n3 - f)).toNat) anew kind n2 s else none)
  else counterfoilref15_Take.tail k a o f w l anew kind n2 s)
 else (counterfoilref15_Packet.f k a o f w l 2 0 (⟨#[]⟩ : ByteArray)).bind fun t => some ⟨o, f, w, l, (⟨#[]⟩ : ByteArray), false, t, anew⟩
def counterfoilref15_Take.step (k : Nat) (a o f w : Int) (l : List ByteArray) (anew : Bool) (kind n0 n1 n2 n3 : Int) (s : ByteArray) : Option counterfoilref15_Take.Res :=
 if o < n0 then counterfoilref15_Take.rest k a n0 f 1 l anew kind n1 n2 n3 s else counterfoilref15_Take.rest k a o f w l anew kind n1 n2 n3 s
def counterfoilref15_Take.go (k : Nat) (a o f w : Int) (l : List ByteArray) (anew : Bool) (kind n0 n1 n2 n3 : Int) (s : ByteArray) : Option counterfoilref15_Take.Res :=
 if anew = true then counterfoilref15_Take.step k a o 1 w [] anew kind n0 n1 n2 n3 s else counterfoilref15_Take.step k a o f w l anew kind n0 n1 n2 n3 s
def counterfoilref15_Take.same (o f w : Int) (l : List ByteArray) : counterfoilref15_Take.Res := ⟨o, f, w, l, (⟨#[]⟩ : ByteArray), false, (⟨#[]⟩ : ByteArray), false⟩
def counterfoilref15_Take.f (k : Nat) (a o f w : Int) (l : List ByteArray) (p : ByteArray) : Option counterfoilref15_Take.Res :=
 (counterfoilref15_Heard.f k p).bind fun h => if h.1 = 0 then some (counterfoilref15_Take.same o f w l) else if h.2.1 < o then some (counterfoilref15_Take.same o f w l) else
  counterfoilref15_Take.go k a o f w l (decide (o < h.2.1) && decide (0 < o)) h.1 h.2.1 h.2.2.1 h.2.2.2.1 h.2.2.2.2.1 h.2.2.2.2.2
def counterfoilref15_Take.Out (W : World) (base : Nat) (A : Option Addr) (c : Nat) (l : List ByteArray) (v : Value) (l1 : List ByteArray) : Prop :=
 (v = .slice A l.length c ∧ l1 = l) ∨ Kd.Q Kd.string 9 W base (fun _ => True) v l1
theorem counterfoilref15_Take.Out_read {w W : World} {base : Nat} {A : Option Addr} {c : Nat} {l l1 : List ByteArray} {A1 : Option Addr} {c1 n1 : Nat} (h : counterfoilref15_Take.Out W base A c l (.slice A1 n1 c1) l1) (hr : Kd.C Kd.string w A l.length l) (hc : l.length ≤ c) (hb : Below w.heap.size w W) :
  n1 = l1.length ∧ l1.length ≤ c1 ∧ Kd.C Kd.string W A1 l1.length l1 := by
 rcases h with ⟨h, rfl⟩ | h
 ·injection h with h1 h2 h3
  subst h1 h2 h3
  exact ⟨rfl, hc, Kd.C_below hr hb⟩
 ·have := Kd.Q_reads' h
  exact ⟨this.1, by omega, this.2.2⟩
theorem counterfoilref15_Take.Out_below {W W1 : World} {base : Nat} {A : Option Addr} {c : Nat} {l l1 : List ByteArray} {v : Value} (h : counterfoilref15_Take.Out W base A c l v l1) (hb : Below W.heap.size W W1) : counterfoilref15_Take.Out W1 base A c l v l1 := by
 rcases h with h | h
 ·exact .inl h
 ·exact .inr (Kd.Q_below h hb)
theorem counterfoilref15_Take.Out_far {W : World} {base : Nat} {A : Option Addr} {c : Nat} {l l1 : List ByteArray} {v : Value} {g t : Nat} {cs : Array Value} (h : counterfoilref15_Take.Out W base A c l v l1) (hb : W.heap[g]? = some (.cells cs t (0, 0))) (ht : 9 ≠ t) (i : Nat) (u : Value) : counterfoilref15_Take.Out (W.setCell ⟨g, i, none⟩ u) base A c l v l1 := by
 rcases h with h | h
 ·exact .inl h
 ·exact .inr (Kd.Q_mono (Kd.Q_far (p := ⟨g, i, none⟩) (Kd.Q_types h hb (fun q hq => by simp [Kd.string, Kd.scalar] at hq; omega)) (fun _ hk => hk.2) u) (fun _ _ => trivial))
def counterfoilref15_Take.TI (w W : World) (gx gr gn : Nat) (xs ns rs : Array Value) (A0 : Option Addr) (c : Nat) (l0 : List ByteArray) (v : Value) (l : List ByteArray) : Prop :=
 W.heap[gx]? = some (.cells xs 33 (0, 0)) ∧ W.heap[gr]? = some (.cells rs 33 (0, 0)) ∧ W.heap[gn]? = some (.cells ns 68 (0, 0)) ∧ Below w.heap.size w W ∧ counterfoilref15_Take.Out W w.heap.size A0 c l0 v l ∧ (w.heap.size ≤ gx ∧ gx < gr ∧ gr < gn)
section
variable {w W W1 : World} {gx gr gn : Nat} {xs ns rs xs1 rs1 : Array Value} {A0 : Option Addr} {c : Nat} {l0 : List ByteArray} {v v1 u : Value} {l l1 : List ByteArray}
theorem counterfoilref15_Take.TI.setX (h : counterfoilref15_Take.TI w W gx gr gn xs ns rs A0 c l0 v l) (i : Nat) (u : Value) (e : xs.setIfInBounds i u = xs1) : counterfoilref15_Take.TI w (W.setCell ⟨gx, i, none⟩ u) gx gr gn xs1 ns rs A0 c l0 v l := by
 obtain ⟨h1, h2, h3, h4, h5, h6⟩ := h
 exact ⟨blk_put h1 i u e, blk_far h2 (by show gr ≠ gx; omega) u, blk_far h3 (by show gn ≠ gx; omega) u, below_set h4 (by omega), counterfoilref15_Take.Out_far h5 h1 (by decide) i u, h6⟩
theorem counterfoilref15_Take.TI.setR (h : counterfoilref15_Take.TI w W gx gr gn xs ns rs A0 c l0 v l) (i : Nat) (u : Value) (e : rs.setIfInBounds i u = rs1) : counterfoilref15_Take.TI w (W.setCell ⟨gr, i, none⟩ u) gx gr gn xs ns rs1 A0 c l0 v l := by
 obtain ⟨h1, h2, h3, h4, h5, h6⟩ := h
 exact ⟨blk_far h1 (by show gx ≠ gr; omega) u, blk_put h2 i u e, blk_far h3 (by show gn ≠ gr; omega) u, below_set h4 (by omega), counterfoilref15_Take.Out_far h5 h2 (by decide) i u, h6⟩
theorem counterfoilref15_Take.TI.newV (h : counterfoilref15_Take.TI w W gx gr gn xs ns rs A0 c l0 v l) (hq : Kd.Q Kd.string 9 W w.heap.size (fun _ => True) v1 l1) : counterfoilref15_Take.TI w W gx gr gn xs ns rs A0 c l0 v1 l1 := by
 obtain ⟨h1, h2, h3, h4, h5, h6⟩ := h
 exact ⟨h1, h2, h3, h4, .inr hq, h6⟩
theorem counterfoilref15_Take.TI.call (h : counterfoilref15_Take.TI w W gx gr gn xs ns rs A0 c l0 v l) (hb : Below W.heap.size W W1) : counterfoilref15_Take.TI w W1 gx gr gn xs ns rs A0 c l0 v l := by
 obtain ⟨h1, h2, h3, h4, h5, h6⟩ := h
 exact ⟨blk_below h1 hb, blk_below h2 hb, blk_below h3 hb, below_step h4 hb, counterfoilref15_Take.Out_below h5 hb, h6⟩
theorem counterfoilref15_Take.TI.grown (h : counterfoilref15_Take.TI w W gx gr gn xs ns rs A0 c l0 v l) (hb : Below w.heap.size w W1) (hg : W.grownBy W1 (Value.slice none 0 0).ownBlock) (hR : Kd.R Kd.string 9 W1 w.heap.size (fun _ => True) v1 l1) : counterfoilref15_Take.TI w W1 gx gr gn xs ns rs A0 c l0 v1 l1 := by
 obtain ⟨h1, h2, h3, h4, h5, h6⟩ := h
 exact ⟨blk_grown h1 hg (by simp [Value.ownBlock]), blk_grown h2 hg (by simp [Value.ownBlock]), blk_grown h3 hg (by simp [Value.ownBlock]), hb, .inr (Kd.Q_of_R hR), h6⟩
theorem counterfoilref15_Take.TI.drew (h : counterfoilref15_Take.TI w W gx gr gn xs ns rs A0 c l0 v l) : counterfoilref15_Take.TI w W.drew gx gr gn xs ns rs A0 c l0 v l := h.call (below_drew1 (Below.refl _ _))
end
set_option maxHeartbeats 4000000 in
set_option maxRecDepth 100000 in
theorem counterfoilref15_Take.walk (k : Nat) (a o f wt : Int) (A0 : Option Addr) (c : Nat) (l : List ByteArray) (p : ByteArray) (R : counterfoilref15_Take.Res) (w : World) (hr : Kd.C Kd.string w A0 l.length l) (hc : l.length ≤ c) (h : counterfoilref15_Take.f k a o f wt l p = some R) :
  Calls Try.prog 23 #[.agg #[.int .i64 a, .int .i64 o, .int .i64 f, .int .i64 wt, .slice A0 l.length c], .string p] w fun e w' => ∃ v : Value, e = .returned (.tuple #[.agg #[.int .i64 a, .int .i64 R.o, .int .i64 R.f, .int .i64 R.w, v], .string R.s, .bool R.has, .string R.reply, .bool R.anew]) ∧ counterfoilref15_Take.Out w' w.heap.size A0 c l v R.l ∧ Below w.heap.size w w' := by
 have HB := Aside0.mk (Below.refl w.heap.size w)
 have HR0 := Aside0.mk hr
 have HC0 := Aside0.mk hc
 clear hr hc
 unfold counterfoilref15_Take.f at h
 replace h := Option.bind_eq_some_iff.1 h
 obtain ⟨⟨kind, n0, n1, n2, n3, s⟩, hh, h⟩ := h
 simp only at h
 have HH := Aside0.mk hh
 have H := Aside0.mk h
 clear hh h
 go_enter Try.func23, Try.ntmps23
 go_wp2_with fail
 (with_reducible refine (counterfoilref15_Heard.calls k p kind n0 n1 n2 n3 s _ HH.out).mono ?_)
 rintro e w1 ⟨rfl, hb⟩
 have HB1 := Aside0.mk (below_step (below_alloc (below_alloc HB.out _) _) hb)
 have BX0 := Aside0.mk (blk_below (blk_alloc (blk_new w _) _) hb)
 have BR0 := Aside0.mk (blk_below (blk_new (w.alloc _) _) hb)
 have HZ := Aside0.mk hb.size
 clear hb
 go_upto_region 2 with (fail)
 have T0 : Aside0 (counterfoilref15_Take.TI w (w1.alloc (.cells #[.int .i64 n0, .int .i64 n1, .int .i64 n2, .int .i64 n3] 68 (0, 0))) w.heap.size (w.heap.size + 1) w1.heap.size #[.int .i64 a, .int .i64 o, .int .i64 f, .int .i64 wt, .slice A0 l.length c] #[.int .i64 n0, .int .i64 n1, .int .i64 n2, .int .i64 n3] #[.int .i64 0, .int .i64 0, .int .i64 0, .int .i64 0, .slice none 0 0] A0 c l (.slice A0 l.length c) l) :=
  ⟨⟨blk_alloc BX0.out _, by simpa using blk_alloc BR0.out _, blk_new w1 _, below_alloc HB1.out _, .inl ⟨rfl, rfl⟩, by have := HZ.out; simp at this; omega⟩⟩
 clear BX0 BR0 HB1 HZ
 generalize w1.alloc (.cells #[.int .i64 n0, .int .i64 n1, .int .i64 n2, .int .i64 n3] 68 (0, 0)) = V at T0 ⊢
 generalize w.heap.size + 1 = gr at T0 ⊢
 generalize w1.heap.size = gn at T0 ⊢
 have ne_xr : w.heap.size ≠ gr := by have := T0.out.2.2.2.2.2; omega
 have ne_rx : gr ≠ w.heap.size := ne_xr.symm
 have ne_xn : w.heap.size ≠ gn := by have := T0.out.2.2.2.2.2; omega
 have ne_nx : gn ≠ w.heap.size := ne_xn.symm
 have ne_nr : gn ≠ gr := by have := T0.out.2.2.2.2.2; omega
 have vn0 : V.cell? ⟨gn, 0, none⟩ = some (.int .i64 n0) := (blk_cell T0.out.2.2.1 0).trans rfl
 have vx1 : V.cell? ⟨w.heap.size, 1, none⟩ = some (.int .i64 o) := (blk_cell T0.out.1 1).trans rfl
 have h := H.out
 by_cases q0 : kind = 0
 ·rw [if_pos q0] at h
  obtain rfl := Option.some.inj h
  clear h H
  have d0 : (kind == 0) = true := beq_iff_eq.2 q0
  clear q0
  clear vx1
  have ex0 : V.cell? ⟨w.heap.size, 0, none⟩ = some (.int .i64 a) := (blk_cell T0.out.1 0).trans rfl
  have ex1 : V.cell? ⟨w.heap.size, 1, none⟩ = some (.int .i64 o) := (blk_cell T0.out.1 1).trans rfl
  have ex2 : V.cell? ⟨w.heap.size, 2, none⟩ = some (.int .i64 f) := (blk_cell T0.out.1 2).trans rfl
  have ex3 : V.cell? ⟨w.heap.size, 3, none⟩ = some (.int .i64 wt) := (blk_cell T0.out.1 3).trans rfl
  have ex4 : V.cell? ⟨w.heap.size, 4, none⟩ = some (.slice A0 l.length c) := (blk_cell T0.out.1 4).trans rfl
  have er0 : V.cell? ⟨gr, 0, none⟩ = some (.int .i64 0) := (blk_cell T0.out.2.1 0).trans rfl
  have er0f : V.frozen? ⟨gr, 0, none⟩ = false := blk_frozen T0.out.2.1 0
  have er1 : V.cell? ⟨gr, 1, none⟩ = some (.int .i64 0) := (blk_cell T0.out.2.1 1).trans rfl
  have er1f : V.frozen? ⟨gr, 1, none⟩ = false := blk_frozen T0.out.2.1 1
  have er2 : V.cell? ⟨gr, 2, none⟩ = some (.int .i64 0) := (blk_cell T0.out.2.1 2).trans rfl
  have er2f : V.frozen? ⟨gr, 2, none⟩ = false := blk_frozen T0.out.2.1 2
  have er3 : V.cell? ⟨gr, 3, none⟩ = some (.int .i64 0) := (blk_cell T0.out.2.1 3).trans rfl
  have er3f : V.frozen? ⟨gr, 3, none⟩ = false := blk_frozen T0.out.2.1 3
  have er4 : V.cell? ⟨gr, 4, none⟩ = some (.slice none 0 0) := (blk_cell T0.out.2.1 4).trans rfl
  have er4f : V.frozen? ⟨gr, 4, none⟩ = false := blk_frozen T0.out.2.1 4
  go_wp2
  exact (have Z := (((((T0.out).setR 0 _ rfl).setR 1 _ rfl).setR 2 _ rfl).setR 3 _ rfl).setR 4 _ rfl; bodyPost_ret (results_list (rs := [.cell 4 33, .tmp 5, .tmp 6, .tmp 7, .tmp 8]) rfl (by simp) (.cell gr 33 #[.int .i64 a, .int .i64 o, .int .i64 f, .int .i64 wt, .slice A0 l.length c] (0, 0) _ rfl Z.2.1 Try.underlying33 rfl (by kernel_rfl) (.tmp (.tmp (.tmp (.tmp .nil)))))) rfl ⟨_, rfl, Z.2.2.2.2.1, Z.2.2.2.1⟩)
 rw [if_neg q0] at h
 have d0 : (kind == 0) = false := beq_eq_false_iff_ne.2 q0
 by_cases q1 : n0 < o
 ·rw [if_pos q1] at h
  obtain rfl := Option.some.inj h
  clear h H
  have d1 : decide (n0 < o) = true := decide_eq_true q1
  clear q0 q1
  clear vx1
  have ex0 : V.cell? ⟨w.heap.size, 0, none⟩ = some (.int .i64 a) := (blk_cell T0.out.1 0).trans rfl
  have ex1 : V.cell? ⟨w.heap.size, 1, none⟩ = some (.int .i64 o) := (blk_cell T0.out.1 1).trans rfl
  have ex2 : V.cell? ⟨w.heap.size, 2, none⟩ = some (.int .i64 f) := (blk_cell T0.out.1 2).trans rfl
  have ex3 : V.cell? ⟨w.heap.size, 3, none⟩ = some (.int .i64 wt) := (blk_cell T0.out.1 3).trans rfl
  have ex4 : V.cell? ⟨w.heap.size, 4, none⟩ = some (.slice A0 l.length c) := (blk_cell T0.out.1 4).trans rfl
  have er0 : V.cell? ⟨gr, 0, none⟩ = some (.int .i64 0) := (blk_cell T0.out.2.1 0).trans rfl
  have er0f : V.frozen? ⟨gr, 0, none⟩ = false := blk_frozen T0.out.2.1 0
  have er1 : V.cell? ⟨gr, 1, none⟩ = some (.int .i64 0) := (blk_cell T0.out.2.1 1).trans rfl
  have er1f : V.frozen? ⟨gr, 1, none⟩ = false := blk_frozen T0.out.2.1 1
  have er2 : V.cell? ⟨gr, 2, none⟩ = some (.int .i64 0) := (blk_cell T0.out.2.1 2).trans rfl
  have er2f : V.frozen? ⟨gr, 2, none⟩ = false := blk_frozen T0.out.2.1 2
  have er3 : V.cell? ⟨gr, 3, none⟩ = some (.int .i64 0) := (blk_cell T0.out.2.1 3).trans rfl
  have er3f : V.frozen? ⟨gr, 3, none⟩ = false := blk_frozen T0.out.2.1 3
  have er4 : V.cell? ⟨gr, 4, none⟩ = some (.slice none 0 0) := (blk_cell T0.out.2.1 4).trans rfl
  have er4f : V.frozen? ⟨gr, 4, none⟩ = false := blk_frozen T0.out.2.1 4
  go_wp2
  exact (have Z := (((((T0.out).setR 0 _ rfl).setR 1 _ rfl).setR 2 _ rfl).setR 3 _ rfl).setR 4 _ rfl; bodyPost_ret (results_list (rs := [.cell 4 33, .tmp 5, .tmp 6, .tmp 7, .tmp 8]) rfl (by simp) (.cell gr 33 #[.int .i64 a, .int .i64 o, .int .i64 f, .int .i64 wt, .slice A0 l.length c] (0, 0) _ rfl Z.2.1 Try.underlying33 rfl (by kernel_rfl) (.tmp (.tmp (.tmp (.tmp .nil)))))) rfl ⟨_, rfl, Z.2.2.2.2.1, Z.2.2.2.1⟩)
 rw [if_neg q1] at h
 have d1 : decide (n0 < o) = false := decide_eq_false q1
 have H1 := Aside0.mk h
 clear h H q0 q1
 go_upto_region 4 with (fail)
 go_cut [12] (fun v12 wc => ∃ b : Bool, v12 = .bool b ∧ Aside0 (counterfoilref15_Take.TI w wc w.heap.size gr gn #[.int .i64 a, .int .i64 o, .int .i64 f, .int .i64 wt, .slice A0 l.length c] #[.int .i64 n0, .int .i64 n1, .int .i64 n2, .int .i64 n3] #[.int .i64 0, .int .i64 0, .int .i64 0, .int .i64 0, .slice none 0 0] A0 c l (.slice A0 l.length c) l) ∧ Aside0 (b = (decide (o < n0) && decide (0 < o))))
 case first =>
  by_cases p1 : o < n0
  ·have e1 : decide (o < n0) = true := decide_eq_true p1
   clear p1
   go_wp2
   go_meet
   case rel => exact ⟨_, rfl, T0, ⟨by rw [e1]; rfl⟩⟩
  ·have e1 : decide (o < n0) = false := decide_eq_false p1
   clear p1
   go_wp2
   go_meet
   case rel => exact ⟨_, rfl, T0, ⟨by rw [e1]; rfl⟩⟩
 case rest =>
  obtain ⟨anew, rfl, T1, HA⟩ := hcut
  clear T0 vn0 vx1
  have h := H1.out
  rw [← HA.out] at h
  have H2 := Aside0.mk h
  clear h H1
  go_upto_if 42 with (fail)
  go_cut [] (fun wc => ∃ (f1 : Int) (l2 : List ByteArray) (A2 : Option Addr) (c2 : Nat), Aside0 (counterfoilref15_Take.TI w wc w.heap.size gr gn #[.int .i64 a, .int .i64 o, .int .i64 f1, .int .i64 wt, .slice A2 l2.length c2] #[.int .i64 n0, .int .i64 n1, .int .i64 n2, .int .i64 n3] #[.int .i64 0, .int .i64 0, .int .i64 0, .int .i64 0, .slice none 0 0] A0 c l (.slice A2 l2.length c2) l2) ∧ Aside0 (counterfoilref15_Take.step k a o f1 wt l2 anew kind n0 n1 n2 n3 s = some R))
  case first =>
   have h := H2.out
   cases anew with
   | true =>
    have cx4 : wc.cell? ⟨w.heap.size, 4, none⟩ = some (.slice A0 l.length c) := (blk_cell T1.out.1 4).trans rfl
    have cx4f : wc.frozen? ⟨w.heap.size, 4, none⟩ = false := blk_frozen T1.out.1 4
    have cx2 : wc.cell? ⟨w.heap.size, 2, none⟩ = some (.int .i64 f) := (blk_cell T1.out.1 2).trans rfl
    have cx2f : wc.frozen? ⟨w.heap.size, 2, none⟩ = false := blk_frozen T1.out.1 2
    go_wp2
    go_meet
    case rel => exact ⟨1, [], none, 0, ⟨((T1.out.newV (Kd.Q_nil _ _ _ _ _)).setX 4 (.slice none 0 0) rfl).setX 2 _ rfl⟩, ⟨h⟩⟩
   | false =>
    go_wp2
    go_meet
    case rel => exact ⟨f, l, A0, c, T1, ⟨h⟩⟩
  case rest =>
   obtain ⟨f1, l2, A2, c2, T2, H3⟩ := hcut
   clear T1 H2 HA
   have vn0 : wc.cell? ⟨gn, 0, none⟩ = some (.int .i64 n0) := (blk_cell T2.out.2.2.1 0).trans rfl
   have vx1 : wc.cell? ⟨w.heap.size, 1, none⟩ = some (.int .i64 o) := (blk_cell T2.out.1 1).trans rfl
   go_upto_if 49 with (fail)
   go_cut [] (fun wc => ∃ (o1 wt1 : Int), Aside0 (counterfoilref15_Take.TI w wc w.heap.size gr gn #[.int .i64 a, .int .i64 o1, .int .i64 f1, .int .i64 wt1, .slice A2 l2.length c2] #[.int .i64 n0, .int .i64 n1, .int .i64 n2, .int .i64 n3] #[.int .i64 0, .int .i64 0, .int .i64 0, .int .i64 0, .slice none 0 0] A0 c l (.slice A2 l2.length c2) l2) ∧ Aside0 (counterfoilref15_Take.rest k a o1 f1 wt1 l2 anew kind n1 n2 n3 s = some R))
   case first =>
    have h := H3.out
    unfold counterfoilref15_Take.step at h
    have vx1f : wc.frozen? ⟨w.heap.size, 1, none⟩ = false := blk_frozen T2.out.1 1
    have vx3 : wc.cell? ⟨w.heap.size, 3, none⟩ = some (.int .i64 wt) := (blk_cell T2.out.1 3).trans rfl
    have vx3f : wc.frozen? ⟨w.heap.size, 3, none⟩ = false := blk_frozen T2.out.1 3
    by_cases p1 : o < n0
    ·rw [if_pos p1] at h
     have e1 : decide (o < n0) = true := decide_eq_true p1
     clear p1
     rw [e1]
     go_wp2
     go_meet
     case rel => exact ⟨n0, 1, ⟨(T2.out.setX 1 _ rfl).setX 3 _ rfl⟩, ⟨h⟩⟩
    ·rw [if_neg p1] at h
     have e1 : decide (o < n0) = false := decide_eq_false p1
     clear p1
     rw [e1]
     go_wp2
     go_meet
     case rel => exact ⟨o, wt, T2, ⟨h⟩⟩
   case rest =>
    obtain ⟨o1, wt1, T3, H4⟩ := hcut
    clear T2 H3 vn0 vx1
    have h := H4.out
    unfold counterfoilref15_Take.rest at h
    have vn1 : wc.cell? ⟨gn, 1, none⟩ = some (.int .i64 n1) := (blk_cell T3.out.2.2.1 1).trans rfl
    have vx0 : wc.cell? ⟨w.heap.size, 0, none⟩ = some (.int .i64 a) := (blk_cell T3.out.1 0).trans rfl
    by_cases q1 : n1 = a
    ·rw [if_pos q1] at h
     have d2 : (n1 == a) = true := beq_iff_eq.2 q1
     have d3 : (n1 != a) = false := bne_eq_false_iff_eq.2 q1
     have H5 := Aside0.mk h
     clear h H4 q1
     obtain ⟨j, hj⟩ : ∃ j : Int, wrap64 (n3 - f1) = j := ⟨_, rfl⟩
     have h := H5.out
     rw [hj] at h
     have H6 := Aside0.mk h
     clear h H5
     have vn3 : wc.cell? ⟨gn, 3, none⟩ = some (.int .i64 n3) := (blk_cell T3.out.2.2.1 3).trans rfl
     have vx2 : wc.cell? ⟨w.heap.size, 2, none⟩ = some (.int .i64 f1) := (blk_cell T3.out.1 2).trans rfl
     have vx4 : wc.cell? ⟨w.heap.size, 4, none⟩ = some (.slice A2 l2.length c2) := (blk_cell T3.out.1 4).trans rfl
     go_upto_region 12 with (fail)
     (try rw [hj])
     go_cut [76] (fun v76 wc => ∃ b : Bool, v76 = .bool b ∧ Aside0 (counterfoilref15_Take.TI w wc w.heap.size gr gn #[.int .i64 a, .int .i64 o1, .int .i64 f1, .int .i64 wt1, .slice A2 l2.length c2] #[.int .i64 n0, .int .i64 n1, .int .i64 n2, .int .i64 n3] #[.int .i64 0, .int .i64 0, .int .i64 0, .int .i64 0, .slice none 0 0] A0 c l (.slice A2 l2.length c2) l2) ∧ Aside0 (b = (decide (0 ≤ j) && decide (j ≤ (l2.length : Int)))))
     case first =>
      by_cases p1 : 0 ≤ j
      ·have e1 : decide (0 ≤ j) = true := decide_eq_true p1
       go_wp2
       go_meet
       case rel => exact ⟨_, rfl, T3, ⟨by rw [e1]; rfl⟩⟩
      ·have e1 : decide (0 ≤ j) = false := decide_eq_false p1
       go_wp2
       go_meet
       case rel => exact ⟨_, rfl, T3, ⟨by rw [e1]; rfl⟩⟩
     case rest =>
      obtain ⟨b, rfl, T4, HB2⟩ := hcut
      clear T3 vn3 vx2 vx4
      have h := H6.out
      rw [← HB2.out] at h
      have H7 := Aside0.mk h
      clear h H6
      go_upto_if 76 with (fail)
      go_cut [] (fun wc => ∃ (f2 : Int) (l3 : List ByteArray) (A3 : Option Addr) (c3 : Nat), Aside0 (counterfoilref15_Take.TI w wc w.heap.size gr gn #[.int .i64 a, .int .i64 o1, .int .i64 f2, .int .i64 wt1, .slice A3 l3.length c3] #[.int .i64 n0, .int .i64 n1, .int .i64 n2, .int .i64 n3] #[.int .i64 0, .int .i64 0, .int .i64 0, .int .i64 0, .slice none 0 0] A0 c l (.slice A3 l3.length c3) l3) ∧ Aside0 (counterfoilref15_Take.tail k a o1 f2 wt1 l3 anew kind n2 s = some R))
      case first =>
       have h := H7.out
       cases b with
       | false =>
        rw [if_neg (by decide)] at h
        go_wp2
        go_meet
        case rel => exact ⟨f1, l2, A2, c2, T4, ⟨h⟩⟩
       | true =>
        rw [if_pos rfl] at h
        have q3 : 0 ≤ j ∧ j ≤ (l2.length : Int) := by have hb := HB2.out; rw [eq_comm, Bool.and_eq_true, decide_eq_true_eq, decide_eq_true_eq] at hb; exact hb
        by_cases q4 : (l2.drop j.toNat).length < 8796093022208
        ·rw [if_pos q4] at h
         have hR2 := counterfoilref15_Take.Out_read T4.out.2.2.2.2.1 HR0.out HC0.out T4.out.2.2.2.1
         obtain ⟨i0, hi0, _, hsz0, _⟩ := info_parts info9
         have hcut2 := cut_from (P := Try.prog) 22 9 .i64 Try.underlying22 hi0 1 hsz0 A2 l2.length c2 j q3.1 q3.2
         have hC := Kd.C_drop (m := j.toNat) hR2.2.2 (c := c2) (by omega) hR2.2.1
         obtain ⟨A3, hA3⟩ : ∃ A3, A3 = (if c2 = j.toNat then A2 else A2.map (·.add (j.toNat * 1))) := ⟨_, rfl⟩
         obtain ⟨c3, hc3⟩ : ∃ c3, c3 = c2 - j.toNat := ⟨_, rfl⟩
         obtain ⟨l3, hl3⟩ : ∃ l3, l3 = l2.drop j.toNat := ⟨_, rfl⟩
         have hlen : l3.length = l2.length - j.toNat := by rw [hl3, List.length_drop]
         rw [← hlen, ← hA3, ← hc3] at hcut2
         have HC3 : Aside0 (Kd.C Kd.string wc A3 l3.length l3) := ⟨by rw [hA3, hl3]; exact hC⟩
         have H9 : Aside0 (counterfoilref15_Take.tail k a o1 n3 wt1 l3 anew kind n2 s = some R) := ⟨by rw [hl3]; exact h⟩
         have HL14 : Aside0 ((([] : List ByteArray).length + l3.length) * 16 ≤ 140737488355328) := ⟨by rw [hl3, List.length_nil]; omega⟩
         clear h H7 hC hA3 hc3 hl3 hlen hi0 hsz0 q3 q4 hR2
         replace T4 := Aside0.mk T4.out.drew
         replace HC3 := Aside0.mk (Kd.C_drew HC3.out)
         go_upto_region 14 with (fail)
         refine start_ (n := 12) (S := fun w' => w'.cell? ⟨gn, 3, none⟩ = some (.int .i64 n3) ∧ w'.cell? ⟨w.heap.size, 2, none⟩ = some (.int .i64 f1)) (ds := [11]) #[F_,F_,F_,F_,F_,F_,F_,F_,F_,F_,F_,F_] (by kernel_rfl) rfl rfl ⟨(blk_cell T4.out.2.2.1 3).trans rfl, (blk_cell T4.out.1 2).trans rfl⟩ (fun hHeld => ?_)
         generalize World.drew wc = V at T4 HC3 hHeld ⊢
         have vy4 : V.cell? ⟨w.heap.size, 4, none⟩ = some (.slice A2 l2.length c2) := (blk_cell T4.out.1 4).trans rfl
         refine pure_ (i := 0) (N := some 77) (v := ?_) (a' := ?_) #[T_,F_,F_,F_,F_,F_,F_,F_,F_,F_,F_,F_] rfl rfl (by kernel_rfl) (fun _ _ _ h => h) (Or.inl ⟨by rfl, ?_⟩) ?_ ?_
         rotate_left
         ·intro w'
          go_simp
          with_reducible rfl
         rotate_left
         ·exact put_
         refine pure_ (i := 1) (N := some 78) (v := ?_) (a' := ?_) #[T_,T_,F_,F_,F_,F_,F_,F_,F_,F_,F_,F_] rfl rfl (by kernel_rfl) (fun _ _ _ h => h) (Or.inl ⟨by rfl, ?_⟩) ?_ ?_
         rotate_left
         ·intro w'
          go_simp
          with_reducible rfl
         rotate_left
         ·exact put_
         refine pure_ (i := 3) (N := some 80) (v := ?_) (a' := ?_) #[T_,T_,F_,T_,F_,F_,F_,F_,F_,F_,F_,F_] rfl rfl (by kernel_rfl) (fun _ _ _ h => h) (Or.inl ⟨by rfl, ?_⟩) ?_ ?_
         rotate_left
         ·intro w'
          go_simp
          with_reducible rfl
         rotate_left
         ·exact put_
         refine pure_ (i := 6) (N := some 83) (v := ?_) (a' := ?_) #[T_,T_,F_,T_,F_,F_,T_,F_,F_,F_,F_,F_] rfl rfl (by kernel_rfl) (fun _ _ _ h => h) (Or.inl ⟨by rfl, ?_⟩) ?_ ?_
         rotate_left
         ·intro w'
          go_simp
          with_reducible rfl
         rotate_left
         ·exact put_
         refine take_ (i := 7) (N := some 84) (v := ?_) (a' := ?_) #[T_,T_,F_,T_,F_,F_,T_,T_,F_,F_,F_,F_] rfl rfl (by kernel_rfl) (fun _ _ _ h => h) (Or.inl ⟨by rfl, ?_⟩) hHeld ?_ ?_
         rotate_left
         ·rintro w' ⟨s0, s1⟩
          go_simp
          with_reducible rfl
         rotate_left
         ·exact put_
         refine one_ (i := 2) (N := some 79) #[T_,T_,T_,T_,F_,F_,T_,T_,F_,F_,F_,F_] rfl rfl (by kernel_rfl) (by decide) (fun K hK => ?_)
         refine value_ (w1 := ?_) (v := ?_) (by rfl) rfl ?_ ?_
         rotate_left 2
         ·go_simp
          constructor
          ·rfl
          ·rfl
         refine hK.out _ _ ⟨hHeld.1, hHeld.2⟩ (fun hHeld => ?_)
         clear hK K
         refine norm_ (a' := ?_) ?_ ?_
         rotate_left
         ·show Act.put _ (some 79) _ = _
          exact put_
         refine pure_ (i := 4) (N := some 81) (v := ?_) (a' := ?_) #[T_,T_,T_,T_,T_,F_,T_,T_,F_,F_,F_,F_] rfl rfl (by kernel_rfl) (fun _ _ _ h => h) (Or.inl ⟨by rfl, ?_⟩) ?_ ?_
         rotate_left
         ·intro w'
          go_simp
          with_reducible rfl
         rotate_left
         ·exact put_
         refine one_ (i := 5) (N := some 82) #[T_,T_,T_,T_,T_,T_,T_,T_,F_,F_,F_,F_] rfl rfl (by kernel_rfl) (by decide) (fun K hK => ?_)
         refine Kd.R_append_rows_step Kd.string (w0 := w) w.heap.size (by rfl) (.tmp 77) (.tmp 81) 22 9 (.string ⟨#[]⟩) 16 rfl Try.underlying22 info9 rfl (by decide) (by omega) (.slice none 0 0) ([] : List ByteArray) l3 _ _ _ (fun _ => True) (fun _ => False) rfl rfl (Kd.R_nil _ _ _ _ (fun _ => True)) HC3.out (fun _ _ h => h) (fun _ h => h.elim) (fun _ _ => trivial) T4.out.2.2.2.1 T4.out.2.2.2.1.size HL14.out ?_
         intro v5 w5 hR5 hb5 hg5 _
         replace hR5 : Kd.R Kd.string 9 w5 w.heap.size (fun _ => True) v5 l3 := hR5
         obtain ⟨A5, c5, rfl⟩ := Kd.R_slice hR5
         have T6 := Aside0.mk (T4.out.grown hb5 hg5 hR5)
         clear hR5 hb5 hg5
         refine hK.out _ _ ⟨(blk_cell T6.out.2.2.1 3).trans rfl, (blk_cell T6.out.1 2).trans rfl⟩ (fun hHeld => ?_)
         clear hK K
         refine norm_ (a' := ?_) ?_ ?_
         rotate_left
         ·show Act.put _ (some 82) _ = _
          exact put_
         refine pure_ (i := 8) (N := some 85) (v := ?_) (a' := ?_) #[T_,T_,T_,T_,T_,T_,T_,T_,T_,F_,F_,F_] rfl rfl (by kernel_rfl) (fun _ _ _ h => h) (Or.inl ⟨by rfl, ?_⟩) ?_ ?_
         rotate_left
         ·intro w'
          go_simp
          with_reducible rfl
         rotate_left
         ·exact put_
         refine one_ (i := 9) (N := none) #[T_,T_,T_,T_,T_,T_,T_,T_,T_,T_,F_,F_] rfl rfl (by kernel_rfl) (by decide) (fun K hK => ?_)
         have wx4 : w5.cell? ⟨w.heap.size, 4, none⟩ = some (.slice A2 l2.length c2) := (blk_cell T6.out.1 4).trans rfl
         have wx4f : w5.frozen? ⟨w.heap.size, 4, none⟩ = false := blk_frozen T6.out.1 4
         have wx2f : w5.frozen? ⟨w.heap.size, 2, none⟩ = false := blk_frozen T6.out.1 2
         refine skip_ (w1 := ?_) (by rfl) rfl ?_ ?_
         rotate_left
         ·go_simp
          rfl
         refine hK.out _ _ ⟨(cell_far (p := ⟨w.heap.size, _, none⟩) ne_nx _).trans (hHeld.1), (World.cell?_setCell_other _ _ _ _ (by simp)).trans (hHeld.2)⟩ (fun hHeld => ?_)
         clear hK K
         refine pure_ (i := 10) (N := some 86) (v := ?_) (a' := ?_) #[T_,T_,T_,T_,T_,T_,T_,T_,T_,T_,T_,F_] rfl rfl (by kernel_rfl) (fun _ _ _ h => h) (Or.inl ⟨by rfl, ?_⟩) ?_ ?_
         rotate_left
         ·intro w'
          go_simp
          with_reducible rfl
         rotate_left
         ·exact put_
         refine last_ (i := 11) (N := none) #[T_,T_,T_,T_,T_,T_,T_,T_,T_,T_,T_,T_] rfl rfl (by kernel_rfl) (by decide) (fun K hK => ?_)
         have zc := hHeld.2
         refine skip_ (w1 := ?_) (by rfl) rfl ?_ ?_
         rotate_left
         ·go_simp
          rfl
         refine hK.out _ _ ?_
         clear hK K
         refine done_ (by kernel_rfl) ?_
         go_wp2
         go_meet
         case rel => exact ⟨n3, l3, A5, c5, ⟨(T6.out.setX 4 _ rfl).setX 2 _ rfl⟩, H9⟩
        ·rw [if_neg q4] at h
         cases h
      case rest =>
       obtain ⟨f2, l3, A3, c3, T5, H8⟩ := hcut
       clear T4 H7 HB2
       have h := H8.out
       unfold counterfoilref15_Take.tail at h
       have tn2 : wc.cell? ⟨gn, 2, none⟩ = some (.int .i64 n2) := (blk_cell T5.out.2.2.1 2).trans rfl
       have tx3 : wc.cell? ⟨w.heap.size, 3, none⟩ = some (.int .i64 wt1) := (blk_cell T5.out.1 3).trans rfl
       have tx3f : wc.frozen? ⟨w.heap.size, 3, none⟩ = false := blk_frozen T5.out.1 3
       by_cases k1 : kind = 2
       ·rw [if_pos k1] at h
        have e1 : (kind == 2) = true := beq_iff_eq.2 k1
        obtain rfl := Option.some.inj h
        clear h H8 k1 tn2 tx3 tx3f
        have ex0 : wc.cell? ⟨w.heap.size, 0, none⟩ = some (.int .i64 a) := (blk_cell T5.out.1 0).trans rfl
        have ex1 : wc.cell? ⟨w.heap.size, 1, none⟩ = some (.int .i64 o1) := (blk_cell T5.out.1 1).trans rfl
        have ex2 : wc.cell? ⟨w.heap.size, 2, none⟩ = some (.int .i64 f2) := (blk_cell T5.out.1 2).trans rfl
        have ex3 : wc.cell? ⟨w.heap.size, 3, none⟩ = some (.int .i64 wt1) := (blk_cell T5.out.1 3).trans rfl
        have ex4 : wc.cell? ⟨w.heap.size, 4, none⟩ = some (.slice A3 l3.length c3) := (blk_cell T5.out.1 4).trans rfl
        have er0 : wc.cell? ⟨gr, 0, none⟩ = some (.int .i64 0) := (blk_cell T5.out.2.1 0).trans rfl
        have er0f : wc.frozen? ⟨gr, 0, none⟩ = false := blk_frozen T5.out.2.1 0
        have er1 : wc.cell? ⟨gr, 1, none⟩ = some (.int .i64 0) := (blk_cell T5.out.2.1 1).trans rfl
        have er1f : wc.frozen? ⟨gr, 1, none⟩ = false := blk_frozen T5.out.2.1 1
        have er2 : wc.cell? ⟨gr, 2, none⟩ = some (.int .i64 0) := (blk_cell T5.out.2.1 2).trans rfl
        have er2f : wc.frozen? ⟨gr, 2, none⟩ = false := blk_frozen T5.out.2.1 2
        have er3 : wc.cell? ⟨gr, 3, none⟩ = some (.int .i64 0) := (blk_cell T5.out.2.1 3).trans rfl
        have er3f : wc.frozen? ⟨gr, 3, none⟩ = false := blk_frozen T5.out.2.1 3
        have er4 : wc.cell? ⟨gr, 4, none⟩ = some (.slice none 0 0) := (blk_cell T5.out.2.1 4).trans rfl
        have er4f : wc.frozen? ⟨gr, 4, none⟩ = false := blk_frozen T5.out.2.1 4
        go_wp2
        exact (have Z := (((((T5.out).setR 0 _ rfl).setR 1 _ rfl).setR 2 _ rfl).setR 3 _ rfl).setR 4 _ rfl; bodyPost_ret (results_list (rs := [.cell 4 33, .tmp 5, .tmp 6, .tmp 7, .tmp 8]) rfl (by simp) (.cell gr 33 #[.int .i64 a, .int .i64 o1, .int .i64 f2, .int .i64 wt1, .slice A3 l3.length c3] (0, 0) _ rfl Z.2.1 Try.underlying33 rfl (by kernel_rfl) (.tmp (.tmp (.tmp (.tmp .nil)))))) rfl ⟨_, rfl, Z.2.2.2.2.1, Z.2.2.2.1⟩)
       ·rw [if_neg k1] at h
        have e1 : (kind == 2) = false := beq_eq_false_iff_ne.2 k1
        by_cases k2 : n2 = wt1
        ·rw [if_pos k2] at h
         have e2 : (n2 == wt1) = true := beq_iff_eq.2 k2
         by_cases k3 : wt1 < 1099511627776
         ·rw [if_pos k3] at h
          have e3 : decide (wt1 < 1099511627776) = true := decide_eq_true k3
          replace h := Option.bind_eq_some_iff.1 h
          obtain ⟨t, ht, h⟩ := h
          obtain rfl := Option.some.inj h
          have HP := Aside0.mk ht
          clear h ht H8 k1 k2 k3
          go_upto_region 21 with (fail)
          replace T5 := Aside0.mk (T5.out.setX 3 (.int .i64 (wrap64 (wt1 + 1))) rfl)
          clear tn2 tx3 tx3f
          generalize wc.setCell ⟨w.heap.size, 3, none⟩ (.int .i64 (wrap64 (wt1 + 1))) = W6 at T5 ⊢
          replace T5 := Aside0.mk T5.out.drew
          go_upto_region 21 with (fail)
          refine start_ (n := 10) (S := fun w' => w'.cell? ⟨w.heap.size, 0, none⟩ = some (.int .i64 a) ∧ w'.cell? ⟨w.heap.size, 1, none⟩ = some (.int .i64 o1) ∧ w'.cell? ⟨w.heap.size, 2, none⟩ = some (.int .i64 f2) ∧ w'.cell? ⟨w.heap.size, 3, none⟩ = some (.int .i64 (wrap64 (wt1 + 1))) ∧ w'.cell? ⟨w.heap.size, 4, none⟩ = some (.slice A3 l3.length c3)) (ds := []) #[F_,F_,F_,F_,F_,F_,F_,F_,F_,F_] (by kernel_rfl) rfl rfl ⟨(blk_cell T5.out.1 0).trans rfl, (blk_cell T5.out.1 1).trans rfl, (blk_cell T5.out.1 2).trans rfl, (blk_cell T5.out.1 3).trans rfl, (blk_cell T5.out.1 4).trans rfl⟩ (fun hHeld => ?_)
          generalize World.drew W6 = V at T5 hHeld ⊢
          have HKq := Aside0.mk (counterfoilref15_Take.Out_read T5.out.2.2.2.2.1 HR0.out HC0.out T5.out.2.2.2.1)
          refine pure_ (i := 1) (N := some 112) (v := ?_) (a' := ?_) #[F_,T_,F_,F_,F_,F_,F_,F_,F_,F_] rfl rfl (by kernel_rfl) (fun _ _ _ h => h) (Or.inl ⟨by rfl, ?_⟩) ?_ ?_
          rotate_left
          ·intro w'
           go_simp
           with_reducible rfl
          rotate_left
          ·exact put_
          refine pure_ (i := 4) (N := some 115) (v := ?_) (a' := ?_) #[F_,T_,F_,F_,T_,F_,F_,F_,F_,F_] rfl rfl (by kernel_rfl) (fun _ _ _ h => h) (Or.inl ⟨by rfl, ?_⟩) ?_ ?_
          rotate_left
          ·intro w'
           go_simp
           with_reducible rfl
          rotate_left
          ·exact put_
          refine take_ (i := 0) (N := some 111) (v := ?_) (a' := ?_) #[T_,T_,F_,F_,T_,F_,F_,F_,F_,F_] rfl rfl (by kernel_rfl) (fun _ _ _ h => h) (Or.inl ⟨by rfl, ?_⟩) hHeld ?_ ?_
          rotate_left
          ·rintro w' ⟨s0, s1, s2, s3, s4⟩
           go_simp
           with_reducible rfl
          rotate_left
          ·exact put_
          refine take_ (i := 2) (N := some 113) (v := ?_) (a' := ?_) #[T_,T_,T_,F_,T_,F_,F_,F_,F_,F_] rfl rfl (by kernel_rfl) (fun _ _ _ h => h) (Or.inl ⟨by rfl, ?_⟩) hHeld ?_ ?_
          rotate_left
          ·rintro w' ⟨s0, s1, s2, s3, s4⟩
           go_simp
           with_reducible rfl
          rotate_left
          ·exact put_
          refine one_ (i := 3) (N := some 114) #[T_,T_,T_,T_,T_,F_,F_,F_,F_,F_] rfl rfl (by kernel_rfl) (by decide) (fun K hK => ?_)
          refine goes_ Try.func37 (by kernel_rfl) rfl #[.agg #[.int .i64 a, .int .i64 o1, .int .i64 f2, .int .i64 (wrap64 (wt1 + 1)), .slice A3 l3.length c3], .int .i64 2, .int .i64 0, .string (⟨#[]⟩ : ByteArray)] (by rfl) rfl rfl (by simp only [List.map_toArray, List.map_cons, List.map_nil]; rfl) ?_
          with_reducible refine (counterfoilref15_Packet.calls k a o1 f2 (wrap64 (wt1 + 1)) A3 c3 l3 2 0 (⟨#[]⟩ : ByteArray) t _ HKq.out.2.2 HKq.out.2.1 HP.out).mono ?_
          rintro e w3 ⟨rfl, hb⟩
          refine ⟨_, rfl, ?_⟩
          have TP := Aside0.mk (T5.out.call hb)
          clear hb
          refine hK.out _ _ ⟨(blk_cell TP.out.1 0).trans rfl, (blk_cell TP.out.1 1).trans rfl, (blk_cell TP.out.1 2).trans rfl, (blk_cell TP.out.1 3).trans rfl, (blk_cell TP.out.1 4).trans rfl⟩ (fun hHeld => ?_)
          clear hK K
          refine norm_ (a' := ?_) ?_ ?_
          rotate_left
          ·show Act.put _ (some 114) _ = _
           exact put_
          refine one_ (i := 5) (N := none) #[T_,T_,T_,T_,T_,T_,F_,F_,F_,F_] rfl rfl (by kernel_rfl) (by decide) (fun K hK => ?_)
          have er0 : w3.cell? ⟨gr, 0, none⟩ = some (.int .i64 0) := (blk_cell TP.out.2.1 0).trans rfl
          have er0f : w3.frozen? ⟨gr, 0, none⟩ = false := blk_frozen TP.out.2.1 0
          have er1 : w3.cell? ⟨gr, 1, none⟩ = some (.int .i64 0) := (blk_cell TP.out.2.1 1).trans rfl
          have er1f : w3.frozen? ⟨gr, 1, none⟩ = false := blk_frozen TP.out.2.1 1
          have er2 : w3.cell? ⟨gr, 2, none⟩ = some (.int .i64 0) := (blk_cell TP.out.2.1 2).trans rfl
          have er2f : w3.frozen? ⟨gr, 2, none⟩ = false := blk_frozen TP.out.2.1 2
          have er3 : w3.cell? ⟨gr, 3, none⟩ = some (.int .i64 0) := (blk_cell TP.out.2.1 3).trans rfl
          have er3f : w3.frozen? ⟨gr, 3, none⟩ = false := blk_frozen TP.out.2.1 3
          have er4 : w3.cell? ⟨gr, 4, none⟩ = some (.slice none 0 0) := (blk_cell TP.out.2.1 4).trans rfl
          have er4f : w3.frozen? ⟨gr, 4, none⟩ = false := blk_frozen TP.out.2.1 4
          refine skip_ (w1 := ?_) (by rfl) rfl ?_ ?_
          rotate_left
          ·go_simp
           rfl
          refine hK.out _ _ ⟨far5_ ne_xr (hHeld.1), far5_ ne_xr (hHeld.2.1), far5_ ne_xr (hHeld.2.2.1), far5_ ne_xr (hHeld.2.2.2.1), far5_ ne_xr (hHeld.2.2.2.2)⟩ (fun hHeld => ?_)
          clear hK K
          refine pure_ (i := 6) (N := some 5) (v := ?_) (a' := ?_) #[T_,T_,T_,T_,T_,T_,T_,F_,F_,F_] rfl rfl (by kernel_rfl) (fun _ _ _ h => h) (Or.inl ⟨by rfl, ?_⟩) ?_ ?_
          rotate_left
          ·intro w'
           go_simp
           with_reducible rfl
          rotate_left
          ·exact put_
          refine pure_ (i := 7) (N := some 6) (v := ?_) (a' := ?_) #[T_,T_,T_,T_,T_,T_,T_,T_,F_,F_] rfl rfl (by kernel_rfl) (fun _ _ _ h => h) (Or.inl ⟨by rfl, ?_⟩) ?_ ?_
          rotate_left
          ·intro w'
           go_simp
           with_reducible rfl
          rotate_left
          ·exact put_
          refine pure_ (i := 8) (N := some 7) (v := ?_) (a' := ?_) #[T_,T_,T_,T_,T_,T_,T_,T_,T_,F_] rfl rfl (by kernel_rfl) (fun _ _ _ h => h) (Or.inl ⟨by rfl, ?_⟩) ?_ ?_
          rotate_left
          ·intro w'
           go_simp
           with_reducible rfl
          rotate_left
          ·exact put_
          refine pure_ (i := 9) (N := some 8) (v := ?_) (a' := ?_) #[T_,T_,T_,T_,T_,T_,T_,T_,T_,T_] rfl rfl (by kernel_rfl) (fun _ _ _ h => h) (Or.inl ⟨by rfl, ?_⟩) ?_ ?_
          rotate_left
          ·intro w'
           go_simp
           with_reducible rfl
          rotate_left
          ·exact put_
          refine done_ (by kernel_rfl) ?_
          go_wp2
          exact (have Z := (((((TP.out).setR 0 _ rfl).setR 1 _ rfl).setR 2 _ rfl).setR 3 _ rfl).setR 4 _ rfl; bodyPost_ret (results_list (rs := [.cell 4 33, .tmp 5, .tmp 6, .tmp 7, .tmp 8]) rfl (by simp) (.cell gr 33 #[.int .i64 a, .int .i64 o1, .int .i64 f2, .int .i64 (wrap64 (wt1 + 1)), .slice A3 l3.length c3] (0, 0) _ rfl Z.2.1 Try.underlying33 rfl (by kernel_rfl) (.tmp (.tmp (.tmp (.tmp .nil)))))) rfl ⟨_, rfl, Z.2.2.2.2.1, Z.2.2.2.1⟩)
         ·rw [if_neg k3] at h
          have e3 : decide (wt1 < 1099511627776) = false := decide_eq_false k3
          replace h := Option.bind_eq_some_iff.1 h
          obtain ⟨t, ht, h⟩ := h
          obtain rfl := Option.some.inj h
          have HP := Aside0.mk ht
          clear h ht H8 k1 k2 k3
          go_upto_region 19 with (fail)
          clear tn2 tx3 tx3f
          replace T5 := Aside0.mk T5.out.drew
          go_upto_region 19 with (fail)
          refine start_ (n := 9) (S := fun w' => w'.cell? ⟨w.heap.size, 0, none⟩ = some (.int .i64 a) ∧ w'.cell? ⟨w.heap.size, 1, none⟩ = some (.int .i64 o1) ∧ w'.cell? ⟨w.heap.size, 2, none⟩ = some (.int .i64 f2) ∧ w'.cell? ⟨w.heap.size, 3, none⟩ = some (.int .i64 wt1) ∧ w'.cell? ⟨w.heap.size, 4, none⟩ = some (.slice A3 l3.length c3)) (ds := []) #[F_,F_,F_,F_,F_,F_,F_,F_,F_] (by kernel_rfl) rfl rfl ⟨(blk_cell T5.out.1 0).trans rfl, (blk_cell T5.out.1 1).trans rfl, (blk_cell T5.out.1 2).trans rfl, (blk_cell T5.out.1 3).trans rfl, (blk_cell T5.out.1 4).trans rfl⟩ (fun hHeld => ?_)
          generalize World.drew wc = V at T5 hHeld ⊢
          have HKq := Aside0.mk (counterfoilref15_Take.Out_read T5.out.2.2.2.2.1 HR0.out HC0.out T5.out.2.2.2.1)
          refine pure_ (i := 3) (N := some 106) (v := ?_) (a' := ?_) #[F_,F_,F_,T_,F_,F_,F_,F_,F_] rfl rfl (by kernel_rfl) (fun _ _ _ h => h) (Or.inl ⟨by rfl, ?_⟩) ?_ ?_
          rotate_left
          ·intro w'
           go_simp
           with_reducible rfl
          rotate_left
          ·exact put_
          refine take_ (i := 0) (N := some 103) (v := ?_) (a' := ?_) #[T_,F_,F_,T_,F_,F_,F_,F_,F_] rfl rfl (by kernel_rfl) (fun _ _ _ h => h) (Or.inl ⟨by rfl, ?_⟩) hHeld ?_ ?_
          rotate_left
          ·rintro w' ⟨s0, s1, s2, s3, s4⟩
           go_simp
           with_reducible rfl
          rotate_left
          ·exact put_
          refine take_ (i := 1) (N := some 104) (v := ?_) (a' := ?_) #[T_,T_,F_,T_,F_,F_,F_,F_,F_] rfl rfl (by kernel_rfl) (fun _ _ _ h => h) (Or.inl ⟨by rfl, ?_⟩) hHeld ?_ ?_
          rotate_left
          ·rintro w' ⟨s0, s1, s2, s3, s4⟩
           go_simp
           with_reducible rfl
          rotate_left
          ·exact put_
          refine one_ (i := 2) (N := some 105) #[T_,T_,T_,T_,F_,F_,F_,F_,F_] rfl rfl (by kernel_rfl) (by decide) (fun K hK => ?_)
          refine goes_ Try.func37 (by kernel_rfl) rfl #[.agg #[.int .i64 a, .int .i64 o1, .int .i64 f2, .int .i64 wt1, .slice A3 l3.length c3], .int .i64 2, .int .i64 0, .string (⟨#[]⟩ : ByteArray)] (by rfl) rfl rfl (by simp only [List.map_toArray, List.map_cons, List.map_nil]; rfl) ?_
          with_reducible refine (counterfoilref15_Packet.calls k a o1 f2 wt1 A3 c3 l3 2 0 (⟨#[]⟩ : ByteArray) t _ HKq.out.2.2 HKq.out.2.1 HP.out).mono ?_
          rintro e w3 ⟨rfl, hb⟩
          refine ⟨_, rfl, ?_⟩
          have TP := Aside0.mk (T5.out.call hb)
          clear hb
          refine hK.out _ _ ⟨(blk_cell TP.out.1 0).trans rfl, (blk_cell TP.out.1 1).trans rfl, (blk_cell TP.out.1 2).trans rfl, (blk_cell TP.out.1 3).trans rfl, (blk_cell TP.out.1 4).trans rfl⟩ (fun hHeld => ?_)
          clear hK K
          refine norm_ (a' := ?_) ?_ ?_
          rotate_left
          ·show Act.put _ (some 105) _ = _
           exact put_
          refine one_ (i := 4) (N := none) #[T_,T_,T_,T_,T_,F_,F_,F_,F_] rfl rfl (by kernel_rfl) (by decide) (fun K hK => ?_)
          have er0 : w3.cell? ⟨gr, 0, none⟩ = some (.int .i64 0) := (blk_cell TP.out.2.1 0).trans rfl
          have er0f : w3.frozen? ⟨gr, 0, none⟩ = false := blk_frozen TP.out.2.1 0
          have er1 : w3.cell? ⟨gr, 1, none⟩ = some (.int .i64 0) := (blk_cell TP.out.2.1 1).trans rfl
          have er1f : w3.frozen? ⟨gr, 1, none⟩ = false := blk_frozen TP.out.2.1 1
          have er2 : w3.cell? ⟨gr, 2, none⟩ = some (.int .i64 0) := (blk_cell TP.out.2.1 2).trans rfl
          have er2f : w3.frozen? ⟨gr, 2, none⟩ = false := blk_frozen TP.out.2.1 2
          have er3 : w3.cell? ⟨gr, 3, none⟩ = some (.int .i64 0) := (blk_cell TP.out.2.1 3).trans rfl
          have er3f : w3.frozen? ⟨gr, 3, none⟩ = false := blk_frozen TP.out.2.1 3
          have er4 : w3.cell? ⟨gr, 4, none⟩ = some (.slice none 0 0) := (blk_cell TP.out.2.1 4).trans rfl
          have er4f : w3.frozen? ⟨gr, 4, none⟩ = false := blk_frozen TP.out.2.1 4
          refine skip_ (w1 := ?_) (by rfl) rfl ?_ ?_
          rotate_left
          ·go_simp
           rfl
          refine hK.out _ _ ⟨far5_ ne_xr (hHeld.1), far5_ ne_xr (hHeld.2.1), far5_ ne_xr (hHeld.2.2.1), far5_ ne_xr (hHeld.2.2.2.1), far5_ ne_xr (hHeld.2.2.2.2)⟩ (fun hHeld => ?_)
          clear hK K
          refine pure_ (i := 5) (N := some 5) (v := ?_) (a' := ?_) #[T_,T_,T_,T_,T_,T_,F_,F_,F_] rfl rfl (by kernel_rfl) (fun _ _ _ h => h) (Or.inl ⟨by rfl, ?_⟩) ?_ ?_
          rotate_left
          ·intro w'
           go_simp
           with_reducible rfl
          rotate_left
          ·exact put_
          refine pure_ (i := 6) (N := some 6) (v := ?_) (a' := ?_) #[T_,T_,T_,T_,T_,T_,T_,F_,F_] rfl rfl (by kernel_rfl) (fun _ _ _ h => h) (Or.inl ⟨by rfl, ?_⟩) ?_ ?_
          rotate_left
          ·intro w'
           go_simp
           with_reducible rfl
          rotate_left
          ·exact put_
          refine pure_ (i := 7) (N := some 7) (v := ?_) (a' := ?_) #[T_,T_,T_,T_,T_,T_,T_,T_,F_] rfl rfl (by kernel_rfl) (fun _ _ _ h => h) (Or.inl ⟨by rfl, ?_⟩) ?_ ?_
          rotate_left
          ·intro w'
           go_simp
           with_reducible rfl
          rotate_left
          ·exact put_
          refine pure_ (i := 8) (N := some 8) (v := ?_) (a' := ?_) #[T_,T_,T_,T_,T_,T_,T_,T_,T_] rfl rfl (by kernel_rfl) (fun _ _ _ h => h) (Or.inl ⟨by rfl, ?_⟩) ?_ ?_
          rotate_left
          ·intro w'
           go_simp
           with_reducible rfl
          rotate_left
          ·exact put_
          refine done_ (by kernel_rfl) ?_
          go_wp2
          exact (have Z := (((((TP.out).setR 0 _ rfl).setR 1 _ rfl).setR 2 _ rfl).setR 3 _ rfl).setR 4 _ rfl; bodyPost_ret (results_list (rs := [.cell 4 33, .tmp 5, .tmp 6, .tmp 7, .tmp 8]) rfl (by simp) (.cell gr 33 #[.int .i64 a, .int .i64 o1, .int .i64 f2, .int .i64 wt1, .slice A3 l3.length c3] (0, 0) _ rfl Z.2.1 Try.underlying33 rfl (by kernel_rfl) (.tmp (.tmp (.tmp (.tmp .nil)))))) rfl ⟨_, rfl, Z.2.2.2.2.1, Z.2.2.2.1⟩)
        ·rw [if_neg k2] at h
         have e2 : (n2 == wt1) = false := beq_eq_false_iff_ne.2 k2
         replace h := Option.bind_eq_some_iff.1 h
         obtain ⟨t, ht, h⟩ := h
         obtain rfl := Option.some.inj h
         have HP := Aside0.mk ht
         clear h ht H8 k1 k2
         go_upto_region 19 with (fail)
         clear tn2 tx3 tx3f
         replace T5 := Aside0.mk T5.out.drew
         go_upto_region 19 with (fail)
         refine start_ (n := 9) (S := fun w' => w'.cell? ⟨w.heap.size, 0, none⟩ = some (.int .i64 a) ∧ w'.cell? ⟨w.heap.size, 1, none⟩ = some (.int .i64 o1) ∧ w'.cell? ⟨w.heap.size, 2, none⟩ = some (.int .i64 f2) ∧ w'.cell? ⟨w.heap.size, 3, none⟩ = some (.int .i64 wt1) ∧ w'.cell? ⟨w.heap.size, 4, none⟩ = some (.slice A3 l3.length c3)) (ds := []) #[F_,F_,F_,F_,F_,F_,F_,F_,F_] (by kernel_rfl) rfl rfl ⟨(blk_cell T5.out.1 0).trans rfl, (blk_cell T5.out.1 1).trans rfl, (blk_cell T5.out.1 2).trans rfl, (blk_cell T5.out.1 3).trans rfl, (blk_cell T5.out.1 4).trans rfl⟩ (fun hHeld => ?_)
         generalize World.drew wc = V at T5 hHeld ⊢
         have HKq := Aside0.mk (counterfoilref15_Take.Out_read T5.out.2.2.2.2.1 HR0.out HC0.out T5.out.2.2.2.1)
         refine pure_ (i := 3) (N := some 106) (v := ?_) (a' := ?_) #[F_,F_,F_,T_,F_,F_,F_,F_,F_] rfl rfl (by kernel_rfl) (fun _ _ _ h => h) (Or.inl ⟨by rfl, ?_⟩) ?_ ?_
         rotate_left
         ·intro w'
          go_simp
          with_reducible rfl
         rotate_left
         ·exact put_
         refine take_ (i := 0) (N := some 103) (v := ?_) (a' := ?_) #[T_,F_,F_,T_,F_,F_,F_,F_,F_] rfl rfl (by kernel_rfl) (fun _ _ _ h => h) (Or.inl ⟨by rfl, ?_⟩) hHeld ?_ ?_
         rotate_left
         ·rintro w' ⟨s0, s1, s2, s3, s4⟩
          go_simp
          with_reducible rfl
         rotate_left
         ·exact put_
         refine take_ (i := 1) (N := some 104) (v := ?_) (a' := ?_) #[T_,T_,F_,T_,F_,F_,F_,F_,F_] rfl rfl (by kernel_rfl) (fun _ _ _ h => h) (Or.inl ⟨by rfl, ?_⟩) hHeld ?_ ?_
         rotate_left
         ·rintro w' ⟨s0, s1, s2, s3, s4⟩
          go_simp
          with_reducible rfl
         rotate_left
         ·exact put_
         refine one_ (i := 2) (N := some 105) #[T_,T_,T_,T_,F_,F_,F_,F_,F_] rfl rfl (by kernel_rfl) (by decide) (fun K hK => ?_)
         refine goes_ Try.func37 (by kernel_rfl) rfl #[.agg #[.int .i64 a, .int .i64 o1, .int .i64 f2, .int .i64 wt1, .slice A3 l3.length c3], .int .i64 2, .int .i64 0, .string (⟨#[]⟩ : ByteArray)] (by rfl) rfl rfl (by simp only [List.map_toArray, List.map_cons, List.map_nil]; rfl) ?_
         with_reducible refine (counterfoilref15_Packet.calls k a o1 f2 wt1 A3 c3 l3 2 0 (⟨#[]⟩ : ByteArray) t _ HKq.out.2.2 HKq.out.2.1 HP.out).mono ?_
         rintro e w3 ⟨rfl, hb⟩
         refine ⟨_, rfl, ?_⟩
         have TP := Aside0.mk (T5.out.call hb)
         clear hb
         refine hK.out _ _ ⟨(blk_cell TP.out.1 0).trans rfl, (blk_cell TP.out.1 1).trans rfl, (blk_cell TP.out.1 2).trans rfl, (blk_cell TP.out.1 3).trans rfl, (blk_cell TP.out.1 4).trans rfl⟩ (fun hHeld => ?_)
         clear hK K
         refine norm_ (a' := ?_) ?_ ?_
         rotate_left
         ·show Act.put _ (some 105) _ = _
          exact put_
         refine one_ (i := 4) (N := none) #[T_,T_,T_,T_,T_,F_,F_,F_,F_] rfl rfl (by kernel_rfl) (by decide) (fun K hK => ?_)
         have er0 : w3.cell? ⟨gr, 0, none⟩ = some (.int .i64 0) := (blk_cell TP.out.2.1 0).trans rfl
         have er0f : w3.frozen? ⟨gr, 0, none⟩ = false := blk_frozen TP.out.2.1 0
         have er1 : w3.cell? ⟨gr, 1, none⟩ = some (.int .i64 0) := (blk_cell TP.out.2.1 1).trans rfl
         have er1f : w3.frozen? ⟨gr, 1, none⟩ = false := blk_frozen TP.out.2.1 1
         have er2 : w3.cell? ⟨gr, 2, none⟩ = some (.int .i64 0) := (blk_cell TP.out.2.1 2).trans rfl
         have er2f : w3.frozen? ⟨gr, 2, none⟩ = false := blk_frozen TP.out.2.1 2
         have er3 : w3.cell? ⟨gr, 3, none⟩ = some (.int .i64 0) := (blk_cell TP.out.2.1 3).trans rfl
         have er3f : w3.frozen? ⟨gr, 3, none⟩ = false := blk_frozen TP.out.2.1 3
         have er4 : w3.cell? ⟨gr, 4, none⟩ = some (.slice none 0 0) := (blk_cell TP.out.2.1 4).trans rfl
         have er4f : w3.frozen? ⟨gr, 4, none⟩ = false := blk_frozen TP.out.2.1 4
         refine skip_ (w1 := ?_) (by rfl) rfl ?_ ?_
         rotate_left
         ·go_simp
          rfl
         refine hK.out _ _ ⟨far5_ ne_xr (hHeld.1), far5_ ne_xr (hHeld.2.1), far5_ ne_xr (hHeld.2.2.1), far5_ ne_xr (hHeld.2.2.2.1), far5_ ne_xr (hHeld.2.2.2.2)⟩ (fun hHeld => ?_)
         clear hK K
         refine pure_ (i := 5) (N := some 5) (v := ?_) (a' := ?_) #[T_,T_,T_,T_,T_,T_,F_,F_,F_] rfl rfl (by kernel_rfl) (fun _ _ _ h => h) (Or.inl ⟨by rfl, ?_⟩) ?_ ?_
         rotate_left
         ·intro w'
          go_simp
          with_reducible rfl
         rotate_left
         ·exact put_
         refine pure_ (i := 6) (N := some 6) (v := ?_) (a' := ?_) #[T_,T_,T_,T_,T_,T_,T_,F_,F_] rfl rfl (by kernel_rfl) (fun _ _ _ h => h) (Or.inl ⟨by rfl, ?_⟩) ?_ ?_
         rotate_left
         ·intro w'
          go_simp
          with_reducible rfl
         rotate_left
         ·exact put_
         refine pure_ (i := 7) (N := some 7) (v := ?_) (a' := ?_) #[T_,T_,T_,T_,T_,T_,T_,T_,F_] rfl rfl (by kernel_rfl) (fun _ _ _ h => h) (Or.inl ⟨by rfl, ?_⟩) ?_ ?_
         rotate_left
         ·intro w'
          go_simp
          with_reducible rfl
         rotate_left
         ·exact put_
         refine pure_ (i := 8) (N := some 8) (v := ?_) (a' := ?_) #[T_,T_,T_,T_,T_,T_,T_,T_,T_] rfl rfl (by kernel_rfl) (fun _ _ _ h => h) (Or.inl ⟨by rfl, ?_⟩) ?_ ?_
         rotate_left
         ·intro w'
          go_simp
          with_reducible rfl
         rotate_left
         ·exact put_
         refine done_ (by kernel_rfl) ?_
         go_wp2
         exact (have Z := (((((TP.out).setR 0 _ rfl).setR 1 _ rfl).setR 2 _ rfl).setR 3 _ rfl).setR 4 _ rfl; bodyPost_ret (results_list (rs := [.cell 4 33, .tmp 5, .tmp 6, .tmp 7, .tmp 8]) rfl (by simp) (.cell gr 33 #[.int .i64 a, .int .i64 o1, .int .i64 f2, .int .i64 wt1, .slice A3 l3.length c3] (0, 0) _ rfl Z.2.1 Try.underlying33 rfl (by kernel_rfl) (.tmp (.tmp (.tmp (.tmp .nil)))))) rfl ⟨_, rfl, Z.2.2.2.2.1, Z.2.2.2.1⟩)
    ·rw [if_neg q1] at h
     have d2 : (n1 == a) = false := beq_eq_false_iff_ne.2 q1
     have d3 : (n1 != a) = true := bne_iff_ne.2 q1
     replace h := Option.bind_eq_some_iff.1 h
     obtain ⟨t, ht, h⟩ := h
     obtain rfl := Option.some.inj h
     have HP := Aside0.mk ht
     clear h ht H4 q1
     go_upto_region 10 with (fail)
     replace T3 := Aside0.mk T3.out.drew
     go_upto_region 10 with (fail)
     refine start_ (n := 9) (S := fun w' => w'.cell? ⟨w.heap.size, 0, none⟩ = some (.int .i64 a) ∧ w'.cell? ⟨w.heap.size, 1, none⟩ = some (.int .i64 o1) ∧ w'.cell? ⟨w.heap.size, 2, none⟩ = some (.int .i64 f1) ∧ w'.cell? ⟨w.heap.size, 3, none⟩ = some (.int .i64 wt1) ∧ w'.cell? ⟨w.heap.size, 4, none⟩ = some (.slice A2 l2.length c2)) (ds := []) #[F_,F_,F_,F_,F_,F_,F_,F_,F_] (by kernel_rfl) rfl rfl ⟨(blk_cell T3.out.1 0).trans rfl, (blk_cell T3.out.1 1).trans rfl, (blk_cell T3.out.1 2).trans rfl, (blk_cell T3.out.1 3).trans rfl, (blk_cell T3.out.1 4).trans rfl⟩ (fun hHeld => ?_)
     generalize World.drew wc = V at T3 hHeld ⊢
     have HKq := Aside0.mk (counterfoilref15_Take.Out_read T3.out.2.2.2.2.1 HR0.out HC0.out T3.out.2.2.2.1)
     refine pure_ (i := 3) (N := some 62) (v := ?_) (a' := ?_) #[F_,F_,F_,T_,F_,F_,F_,F_,F_] rfl rfl (by kernel_rfl) (fun _ _ _ h => h) (Or.inl ⟨by rfl, ?_⟩) ?_ ?_
     rotate_left
     ·intro w'
      go_simp
      with_reducible rfl
     rotate_left
     ·exact put_
     refine take_ (i := 0) (N := some 59) (v := ?_) (a' := ?_) #[T_,F_,F_,T_,F_,F_,F_,F_,F_] rfl rfl (by kernel_rfl) (fun _ _ _ h => h) (Or.inl ⟨by rfl, ?_⟩) hHeld ?_ ?_
     rotate_left
     ·rintro w' ⟨s0, s1, s2, s3, s4⟩
      go_simp
      with_reducible rfl
     rotate_left
     ·exact put_
     refine take_ (i := 1) (N := some 60) (v := ?_) (a' := ?_) #[T_,T_,F_,T_,F_,F_,F_,F_,F_] rfl rfl (by kernel_rfl) (fun _ _ _ h => h) (Or.inl ⟨by rfl, ?_⟩) hHeld ?_ ?_
     rotate_left
     ·rintro w' ⟨s0, s1, s2, s3, s4⟩
      go_simp
      with_reducible rfl
     rotate_left
     ·exact put_
     refine one_ (i := 2) (N := some 61) #[T_,T_,T_,T_,F_,F_,F_,F_,F_] rfl rfl (by kernel_rfl) (by decide) (fun K hK => ?_)
     refine goes_ Try.func37 (by kernel_rfl) rfl #[.agg #[.int .i64 a, .int .i64 o1, .int .i64 f1, .int .i64 wt1, .slice A2 l2.length c2], .int .i64 2, .int .i64 0, .string (⟨#[]⟩ : ByteArray)] (by rfl) rfl rfl (by simp only [List.map_toArray, List.map_cons, List.map_nil]; rfl) ?_
     with_reducible refine (counterfoilref15_Packet.calls k a o1 f1 wt1 A2 c2 l2 2 0 (⟨#[]⟩ : ByteArray) t _ HKq.out.2.2 HKq.out.2.1 HP.out).mono ?_
     rintro e w3 ⟨rfl, hb⟩
     refine ⟨_, rfl, ?_⟩
     have TP := Aside0.mk (T3.out.call hb)
     clear hb
     refine hK.out _ _ ⟨(blk_cell TP.out.1 0).trans rfl, (blk_cell TP.out.1 1).trans rfl, (blk_cell TP.out.1 2).trans rfl, (blk_cell TP.out.1 3).trans rfl, (blk_cell TP.out.1 4).trans rfl⟩ (fun hHeld => ?_)
     clear hK K
     refine norm_ (a' := ?_) ?_ ?_
     rotate_left
     ·show Act.put _ (some 61) _ = _
      exact put_
     refine one_ (i := 4) (N := none) #[T_,T_,T_,T_,T_,F_,F_,F_,F_] rfl rfl (by kernel_rfl) (by decide) (fun K hK => ?_)
     have er0 : w3.cell? ⟨gr, 0, none⟩ = some (.int .i64 0) := (blk_cell TP.out.2.1 0).trans rfl
     have er0f : w3.frozen? ⟨gr, 0, none⟩ = false := blk_frozen TP.out.2.1 0
     have er1 : w3.cell? ⟨gr, 1, none⟩ = some (.int .i64 0) := (blk_cell TP.out.2.1 1).trans rfl
     have er1f : w3.frozen? ⟨gr, 1, none⟩ = false := blk_frozen TP.out.2.1 1
     have er2 : w3.cell? ⟨gr, 2, none⟩ = some (.int .i64 0) := (blk_cell TP.out.2.1 2).trans rfl
     have er2f : w3.frozen? ⟨gr, 2, none⟩ = false := blk_frozen TP.out.2.1 2
     have er3 : w3.cell? ⟨gr, 3, none⟩ = some (.int .i64 0) := (blk_cell TP.out.2.1 3).trans rfl
     have er3f : w3.frozen? ⟨gr, 3, none⟩ = false := blk_frozen TP.out.2.1 3
     have er4 : w3.cell? ⟨gr, 4, none⟩ = some (.slice none 0 0) := (blk_cell TP.out.2.1 4).trans rfl
     have er4f : w3.frozen? ⟨gr, 4, none⟩ = false := blk_frozen TP.out.2.1 4
     refine skip_ (w1 := ?_) (by rfl) rfl ?_ ?_
     rotate_left
     ·go_simp
      rfl
     refine hK.out _ _ ⟨far5_ ne_xr (hHeld.1), far5_ ne_xr (hHeld.2.1), far5_ ne_xr (hHeld.2.2.1), far5_ ne_xr (hHeld.2.2.2.1), far5_ ne_xr (hHeld.2.2.2.2)⟩ (fun hHeld => ?_)
     clear hK K
     refine pure_ (i := 5) (N := some 5) (v := ?_) (a' := ?_) #[T_,T_,T_,T_,T_,T_,F_,F_,F_] rfl rfl (by kernel_rfl) (fun _ _ _ h => h) (Or.inl ⟨by rfl, ?_⟩) ?_ ?_
     rotate_left
     ·intro w'
      go_simp
      with_reducible rfl
     rotate_left
     ·exact put_
     refine pure_ (i := 6) (N := some 6) (v := ?_) (a' := ?_) #[T_,T_,T_,T_,T_,T_,T_,F_,F_] rfl rfl (by kernel_rfl) (fun _ _ _ h => h) (Or.inl ⟨by rfl, ?_⟩) ?_ ?_
     rotate_left
     ·intro w'
      go_simp
      with_reducible rfl
     rotate_left
     ·exact put_
     refine pure_ (i := 7) (N := some 7) (v := ?_) (a' := ?_) #[T_,T_,T_,T_,T_,T_,T_,T_,F_] rfl rfl (by kernel_rfl) (fun _ _ _ h => h) (Or.inl ⟨by rfl, ?_⟩) ?_ ?_
     rotate_left
     ·intro w'
      go_simp
      with_reducible rfl
     rotate_left
     ·exact put_
     refine pure_ (i := 8) (N := some 8) (v := ?_) (a' := ?_) #[T_,T_,T_,T_,T_,T_,T_,T_,T_] rfl rfl (by kernel_rfl) (fun _ _ _ h => h) (Or.inl ⟨by rfl, ?_⟩) ?_ ?_
     rotate_left
     ·intro w'
      go_simp
      with_reducible rfl
     rotate_left
     ·exact put_
     refine done_ (by kernel_rfl) ?_
     go_wp2
     exact (have Z := (((((TP.out).setR 0 _ rfl).setR 1 _ rfl).setR 2 _ rfl).setR 3 _ rfl).setR 4 _ rfl; bodyPost_ret (results_list (rs := [.cell 4 33, .tmp 5, .tmp 6, .tmp 7, .tmp 8]) rfl (by simp) (.cell gr 33 #[.int .i64 a, .int .i64 o1, .int .i64 f1, .int .i64 wt1, .slice A2 l2.length c2] (0, 0) _ rfl Z.2.1 Try.underlying33 rfl (by kernel_rfl) (.tmp (.tmp (.tmp (.tmp .nil)))))) rfl ⟨_, rfl, Z.2.2.2.2.1, Z.2.2.2.1⟩)
end Go.Proofs.Ytgfmdfgibkkfaaa.P
