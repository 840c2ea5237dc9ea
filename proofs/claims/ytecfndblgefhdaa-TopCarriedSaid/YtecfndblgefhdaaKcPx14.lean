import Derived.Test.YtecfndblgefhdaaKcPx13
namespace Go.Proofs.Ytecfndblgefhdaa.P
open Go.RowKit Go.Proofs.YtecfndblgefhdaaW.PrintWords Go.Proofs.YtecfndblgefhdaaW.PrintLast Go.Proofs.YtecfndblgefhdaaW.PrintMore
attribute [local go_sem] max2_int min2_int max_two min_two max_three min_three max_four min_four
set_option linter.unusedVariables false
set_option linter.unusedSimpArgs false
structure link_Take.Res where
 o : Int
 f : Int
 l : List ByteArray
 w : Int
 s : ByteArray
 has : Bool
 reply : ByteArray
 anew : Bool
def link_Take.tail (k : Nat) (a o f : Int) (l : List ByteArray) (w : Int) (anew : Bool) (kind n2 : Int) (s : ByteArray) : Option link_Take.Res :=
 if kind = 1 then
  (if n2 = w then
   (if w < 1099511627776 then (link_End_packet.f k a o f l (wrap64 (w + 1)) 2 0 (⟨#[]⟩ : ByteArray)).bind fun t => some ⟨o, f, l, wrap64 (w + 1), s, true, t, anew⟩
   else (link_End_packet.f k a o f l w 2 0 (⟨#[]⟩ : ByteArray)).bind fun t => some ⟨o, f, l, w, (⟨#[]⟩ : ByteArray), false, t, anew⟩)
  else (link_End_packet.f k a o f l w 2 0 (⟨#[]⟩ : ByteArray)).bind fun t => some ⟨o, f, l, w, (⟨#[]⟩ : ByteArray), false, t, anew⟩)
 else some ⟨o, f, l, w, (⟨#[]⟩ : ByteArray), false, (⟨#[]⟩ : ByteArray), anew⟩
def link_Take.rest (k : Nat) (a o f : Int) (l : List ByteArray) (w : Int) (anew : Bool) (kind n1 n2 n3 : Int) (s : ByteArray) : Option link_Take.Res :=
 if n1 = a then
  (if (decide (f ≤ n3) && decide (n3 ≤ wrap64 (f + (l.length : Int)))) = true then
   (if 0 ≤ wrap64 (n3 - f) ∧ wrap64 (n3 - f) ≤ (l.length : Int) then link_Take.tail k a o n3 (l.drop (wrap64 (n3 - f)).toNat) w anew kind n2 s else none)
  else link_Take.tail k a o f l w anew kind n2 s)
 else (link_End_packet.f k a o f l w 2 0 (⟨#[]⟩ : ByteArray)).bind fun t => some ⟨o, f, l, w, (⟨#[]⟩ : ByteArray), false, t, anew⟩
def link_Take.same (o f : Int) (l : List ByteArray) (w : Int) : link_Take.Res := ⟨o, f, l, w, (⟨#[]⟩ : ByteArray), false, (⟨#[]⟩ : ByteArray), false⟩
def link_Take.f (k : Nat) (a o f : Int) (l : List ByteArray) (w : Int) (p : ByteArray) : Option link_Take.Res :=
 (link_read.f k p).bind fun h => if h.2.2.2.2.2.2 = true then
  (link_Right.f a o f l w).bind fun r => if r = true then
   (if h.2.1 < o then some (link_Take.same o f l w) else
    (slices_Clone_string_string.f l).bind fun l1 =>
     if o < h.2.1 then (if o = 0 then link_Take.rest k a h.2.1 f l1 1 false h.1 h.2.2.1 h.2.2.2.1 h.2.2.2.2.1 h.2.2.2.2.2.1 else link_Take.rest k a h.2.1 1 [] 1 true h.1 h.2.2.1 h.2.2.2.1 h.2.2.2.2.1 h.2.2.2.2.2.1)
     else link_Take.rest k a o f l1 w false h.1 h.2.2.1 h.2.2.2.1 h.2.2.2.2.1 h.2.2.2.2.2.1)
   else some (link_Take.same o f l w)
  else some (link_Take.same o f l w)
def link_Take.Out (W : World) (base : Nat) (A : Option Addr) (c : Nat) (l : List ByteArray) (v : Value) (l1 : List ByteArray) : Prop :=
 (v = .slice A l.length c ∧ l1 = l) ∨ Kd.Q Kd.string 9 W base (fun _ => True) v l1
def link_Take.TI (w W : World) (gx gr gc gh gd : Nat) (xs hs ds rs cs : Array Value) (v : Value) (l : List ByteArray) : Prop :=
 W.heap[gx]? = some (.cells xs 26 (0, 0)) ∧ W.heap[gr]? = some (.cells rs 26 (0, 0)) ∧ W.heap[gc]? = some (.cells cs 95 (0, 0)) ∧ W.heap[gh]? = some (.cells hs 150 (0, 0)) ∧ W.heap[gd]? = some (.cells ds 95 (0, 0)) ∧
 Below w.heap.size w W ∧ Kd.Q Kd.string 9 W w.heap.size (fun _ => True) v l ∧ (w.heap.size ≤ gx ∧ gx < gr ∧ gr < gc ∧ gc < gh ∧ gh < gd)
section
variable {w W W1 : World} {gx gr gc gh gd : Nat} {xs hs ds rs cs xs1 ds1 rs1 cs1 : Array Value} {v v1 u : Value} {l l1 : List ByteArray}
theorem link_Take.farQ {g t : Nat} {cs : Array Value} (h : Kd.Q Kd.string 9 W w.heap.size (fun _ => True) v l) (hb : W.heap[g]? = some (.cells cs t (0, 0))) (ht : 9 ≠ t) (i : Nat) (u : Value) : Kd.Q Kd.string 9 (W.setCell ⟨g, i, none⟩ u) w.heap.size (fun _ => True) v l :=
 Kd.Q_mono (Kd.Q_far (p := ⟨g, i, none⟩) (Kd.Q_types h hb (fun q hq => by simp [Kd.string, Kd.scalar] at hq; omega)) (fun _ hk => hk.2) u) (fun _ _ => trivial)
theorem link_Take.TI.setX (h : link_Take.TI w W gx gr gc gh gd xs hs ds rs cs v l) (i : Nat) (u : Value) (e : xs.setIfInBounds i u = xs1) : link_Take.TI w (W.setCell ⟨gx, i, none⟩ u) gx gr gc gh gd xs1 hs ds rs cs v l := by
 obtain ⟨h1, h2, h3, h4, h5, h6, h7, h8⟩ := h
 exact ⟨blk_put h1 i u e, blk_far h2 (by show gr ≠ gx; omega) u, blk_far h3 (by show gc ≠ gx; omega) u, blk_far h4 (by show gh ≠ gx; omega) u, blk_far h5 (by show gd ≠ gx; omega) u, below_set h6 z2_, link_Take.farQ h7 h1 z17_ i u, h8⟩
theorem link_Take.TI.setR (h : link_Take.TI w W gx gr gc gh gd xs hs ds rs cs v l) (i : Nat) (u : Value) (e : rs.setIfInBounds i u = rs1) : link_Take.TI w (W.setCell ⟨gr, i, none⟩ u) gx gr gc gh gd xs hs ds rs1 cs v l := by
 obtain ⟨h1, h2, h3, h4, h5, h6, h7, h8⟩ := h
 exact ⟨blk_far h1 (by show gx ≠ gr; omega) u, blk_put h2 i u e, blk_far h3 (by show gc ≠ gr; omega) u, blk_far h4 (by show gh ≠ gr; omega) u, blk_far h5 (by show gd ≠ gr; omega) u, below_set h6 z2_, link_Take.farQ h7 h2 z17_ i u, h8⟩
theorem link_Take.TI.setC (h : link_Take.TI w W gx gr gc gh gd xs hs ds rs cs v l) (i : Nat) (u : Value) (e : cs.setIfInBounds i u = cs1) : link_Take.TI w (W.setCell ⟨gc, i, none⟩ u) gx gr gc gh gd xs hs ds rs cs1 v l := by
 obtain ⟨h1, h2, h3, h4, h5, h6, h7, h8⟩ := h
 exact ⟨blk_far h1 (by show gx ≠ gc; omega) u, blk_far h2 (by show gr ≠ gc; omega) u, blk_put h3 i u e, blk_far h4 (by show gh ≠ gc; omega) u, blk_far h5 (by show gd ≠ gc; omega) u, below_set h6 z2_, link_Take.farQ h7 h3 z17_ i u, h8⟩
theorem link_Take.TI.setD (h : link_Take.TI w W gx gr gc gh gd xs hs ds rs cs v l) (i : Nat) (u : Value) (e : ds.setIfInBounds i u = ds1) : link_Take.TI w (W.setCell ⟨gd, i, none⟩ u) gx gr gc gh gd xs hs ds1 rs cs v l := by
 obtain ⟨h1, h2, h3, h4, h5, h6, h7, h8⟩ := h
 exact ⟨blk_far h1 (by show gx ≠ gd; omega) u, blk_far h2 (by show gr ≠ gd; omega) u, blk_far h3 (by show gc ≠ gd; omega) u, blk_far h4 (by show gh ≠ gd; omega) u, blk_put h5 i u e, below_set h6 z2_, link_Take.farQ h7 h5 z17_ i u, h8⟩
theorem link_Take.TI.newV (h : link_Take.TI w W gx gr gc gh gd xs hs ds rs cs v l) (hq : Kd.Q Kd.string 9 W w.heap.size (fun _ => True) v1 l1) : link_Take.TI w W gx gr gc gh gd xs hs ds rs cs v1 l1 := by
 obtain ⟨h1, h2, h3, h4, h5, h6, h7, h8⟩ := h
 exact ⟨h1, h2, h3, h4, h5, h6, hq, h8⟩
theorem link_Take.TI.call (h : link_Take.TI w W gx gr gc gh gd xs hs ds rs cs v l) (hb : Below W.heap.size W W1) : link_Take.TI w W1 gx gr gc gh gd xs hs ds rs cs v l := by
 obtain ⟨h1, h2, h3, h4, h5, h6, h7, h8⟩ := h
 exact ⟨blk_below h1 hb, blk_below h2 hb, blk_below h3 hb, blk_below h4 hb, blk_below h5 hb, below_step h6 hb, Kd.Q_below h7 hb, h8⟩
theorem link_Take.TI.drew (h : link_Take.TI w W gx gr gc gh gd xs hs ds rs cs v l) : link_Take.TI w W.drew gx gr gc gh gd xs hs ds rs cs v l := h.call (below_drew1 (Below.refl _ _))
end
set_option maxHeartbeats 4000000 in
set_option maxRecDepth 100000 in
theorem link_Take.walk (k : Nat) (a o f : Int) (A0 : Option Addr) (c : Nat) (l : List ByteArray) (wt : Int) (p : ByteArray) (R : link_Take.Res) (w : World) (hr : Kd.C Kd.string w A0 l.length l) (hc : l.length ≤ c) (h : link_Take.f k a o f l wt p = some R) :
  Calls Try.prog 31 #[.agg #[.int .i64 a, .int .i64 o, .int .i64 f, .slice A0 l.length c, .int .i64 wt], .string p] w fun e w' => ∃ v : Value, e = .returned (.tuple #[.agg #[.int .i64 a, .int .i64 R.o, .int .i64 R.f, v, .int .i64 R.w], .agg #[.string R.s, .bool R.has, .string R.reply, .bool R.anew]]) ∧ link_Take.Out w' w.heap.size A0 c l v R.l ∧ Below w.heap.size w w' := by
 have HB := a0_ (Below.refl w.heap.size w)
 have HR0 := a0_ hr
 have HC0 := a0_ hc
 clear hr hc
 unfold link_Take.f at h
 replace h := Option.bind_eq_some_iff.1 h
 obtain ⟨⟨kind, n0, n1, n2, n3, s, ok⟩, hh, h⟩ := h
 simp only at h
 have HH := a0_ hh
 have H := a0_ h
 clear hh h
 go_enter Try.func31, Try.ntmps31
 go_wp2_with fail
 (with_reducible refine (link_read.calls k p kind n0 n1 n2 n3 s ok _ HH.out).mono ?_)
 rintro e w1 ⟨rfl, hb⟩
 have HB1 := a0_ (below_step (below_alloc (below_alloc (below_alloc HB.out _) _) _) hb)
 have BX0 := a0_ (blk_below (blk_alloc (blk_alloc (blk_new w _) _) _) hb)
 have BR0 := a0_ (blk_below (blk_alloc (blk_new (w.alloc _) _) _) hb)
 have BC0 := a0_ (blk_below (blk_new ((w.alloc _).alloc _) _) hb)
 have HZ := a0_ hb.size
 clear hb
 go_upto_region 2 with (fail)
 have BX := a0_ (blk_alloc BX0.out (.cells #[.int .i64 kind, .int .i64 n0, .int .i64 n1, .int .i64 n2, .int .i64 n3, .string s] 150 (0, 0)))
 have BR : Aside0 ((w1.alloc (.cells #[.int .i64 kind, .int .i64 n0, .int .i64 n1, .int .i64 n2, .int .i64 n3, .string s] 150 (0, 0))).heap[w.heap.size + 1]? = some (.cells #[.int .i64 0, .int .i64 0, .int .i64 0, .slice none 0 0, .int .i64 0] 26 (0, 0))) := ⟨by simpa using blk_alloc BR0.out _⟩
 have BC : Aside0 ((w1.alloc (.cells #[.int .i64 kind, .int .i64 n0, .int .i64 n1, .int .i64 n2, .int .i64 n3, .string s] 150 (0, 0))).heap[w.heap.size + 1 + 1]? = some (.cells #[.string (⟨#[]⟩ : ByteArray), .bool false, .string (⟨#[]⟩ : ByteArray), .bool false] 95 (0, 0))) := ⟨by simpa using blk_alloc BC0.out _⟩
 have BH := a0_ (blk_new w1 (.cells #[.int .i64 kind, .int .i64 n0, .int .i64 n1, .int .i64 n2, .int .i64 n3, .string s] 150 (0, 0)))
 have HV := a0_ (below_alloc HB1.out (.cells #[.int .i64 kind, .int .i64 n0, .int .i64 n1, .int .i64 n2, .int .i64 n3, .string s] 150 (0, 0)))
 have HG : Aside0 (w.heap.size < w.heap.size + 1 ∧ w.heap.size + 1 < w.heap.size + 1 + 1 ∧ w.heap.size + 1 + 1 < w1.heap.size) := ⟨by have := HZ.out; simp at this; omega⟩
 clear BX0 BR0 BC0 HB1 HZ
 generalize w1.alloc (.cells #[.int .i64 kind, .int .i64 n0, .int .i64 n1, .int .i64 n2, .int .i64 n3, .string s] 150 (0, 0)) = V at BX BR BC BH HV ⊢
 generalize w.heap.size + 1 + 1 = gc at BC HG ⊢
 generalize w.heap.size + 1 = gr at BR HG ⊢
 generalize w1.heap.size = gh at BH HG ⊢
 have ne_rc : gr ≠ gc := by have := HG.out; omega
 have ne_cr : gc ≠ gr := by have := HG.out; omega
 have ne_xr : w.heap.size ≠ gr := by have := HG.out; omega
 have ne_xc : w.heap.size ≠ gc := by have := HG.out; omega
 have ne_hr : gh ≠ gr := by have := HG.out; omega
 have ne_hc : gh ≠ gc := by have := HG.out; omega
 have le_r : w.heap.size ≤ gr := by have := HG.out; omega
 have le_c : w.heap.size ≤ gc := by have := HG.out; omega
 cases ok with
 | false =>
  have hR := H.out
  rw [if_neg z17_] at hR
  obtain rfl := Option.some.inj hR
  clear hR H
  obtain ⟨xc0, xc1, xc2, xc3, xc4⟩ := bc5_ BX.out
  obtain ⟨rc0, rc1, rc2, rc3, rc4⟩ := bc5_ BR.out
  have rf0 : V.frozen? ⟨gr, 0, none⟩ = false := blk_frozen BR.out 0
  have rf1 : V.frozen? ⟨gr, 1, none⟩ = false := blk_frozen BR.out 1
  have rf2 : V.frozen? ⟨gr, 2, none⟩ = false := blk_frozen BR.out 2
  have rf3 : V.frozen? ⟨gr, 3, none⟩ = false := blk_frozen BR.out 3
  have rf4 : V.frozen? ⟨gr, 4, none⟩ = false := blk_frozen BR.out 4
  obtain ⟨cc0, cc1, cc2, cc3⟩ := bc4_ BC.out
  have cf0 : V.frozen? ⟨gc, 0, none⟩ = false := blk_frozen BC.out 0
  have cf1 : V.frozen? ⟨gc, 1, none⟩ = false := blk_frozen BC.out 1
  have cf2 : V.frozen? ⟨gc, 2, none⟩ = false := blk_frozen BC.out 2
  have cf3 : V.frozen? ⟨gc, 3, none⟩ = false := blk_frozen BC.out 3
  go_wp2
  exact bodyPost_ret (results_cc rfl _ _ gr gc 26 95 #[.int .i64 a, .int .i64 o, .int .i64 f, .slice A0 l.length c, .int .i64 wt] #[.string (⟨#[]⟩ : ByteArray), .bool false, .string (⟨#[]⟩ : ByteArray), .bool false] (0, 0) (0, 0) _ _ rfl (blk_far (blk_far (blk_far (blk_far (blk_put (blk_put (blk_put (blk_put (blk_put (BR.out) 0 _ rfl) 1 _ rfl) 2 _ rfl) 3 _ rfl) 4 _ rfl) ne_rc _) ne_rc _) ne_rc _) ne_rc _) Try.underlying26 rfl z11_ rfl (blk_put (blk_put (blk_put (blk_put (blk_far (blk_far (blk_far (blk_far (blk_far (BC.out) ne_cr _) ne_cr _) ne_cr _) ne_cr _) ne_cr _) 0 _ rfl) 1 _ rfl) 2 _ rfl) 3 _ rfl) Try.underlying95 rfl z11_) rfl ⟨_, rfl, .inl ⟨rfl, rfl⟩, below_set (below_set (below_set (below_set (below_set (below_set (below_set (below_set (below_set (HV.out) le_r) le_r) le_r) le_r) le_r) le_c) le_c) le_c) le_c⟩
 | true =>
  have h := H.out
  rw [if_pos rfl] at h
  clear H
  replace h := Option.bind_eq_some_iff.1 h
  obtain ⟨r, hr, h⟩ := h
  have HRt := a0_ hr
  have H := a0_ h
  clear hr h
  obtain ⟨xc0, xc1, xc2, xc3, xc4⟩ := bc5_ BX.out
  go_wp2_with fail
  (with_reducible refine (link_Right.calls a o f A0 c l wt r _ (Kd.C_below HR0.out HV.out) HC0.out HRt.out).mono ?_)
  rintro e w2 ⟨rfl, hb⟩
  have BX2 := a0_ (blk_below BX.out hb)
  have BR2 := a0_ (blk_below BR.out hb)
  have BC2 := a0_ (blk_below BC.out hb)
  have BH2 := a0_ (blk_below BH.out hb)
  have HV2 := a0_ (below_step HV.out hb)
  clear hb BX BR BC BH HV xc0 xc1 xc2 xc3 xc4
  cases r with
  | false =>
   have hR := H.out
   rw [if_neg z17_] at hR
   obtain rfl := Option.some.inj hR
   clear hR H
   obtain ⟨xc0, xc1, xc2, xc3, xc4⟩ := bc5_ BX2.out
   obtain ⟨rc0, rc1, rc2, rc3, rc4⟩ := bc5_ BR2.out
   have rf0 : w2.frozen? ⟨gr, 0, none⟩ = false := blk_frozen BR2.out 0
   have rf1 : w2.frozen? ⟨gr, 1, none⟩ = false := blk_frozen BR2.out 1
   have rf2 : w2.frozen? ⟨gr, 2, none⟩ = false := blk_frozen BR2.out 2
   have rf3 : w2.frozen? ⟨gr, 3, none⟩ = false := blk_frozen BR2.out 3
   have rf4 : w2.frozen? ⟨gr, 4, none⟩ = false := blk_frozen BR2.out 4
   obtain ⟨cc0, cc1, cc2, cc3⟩ := bc4_ BC2.out
   have cf0 : w2.frozen? ⟨gc, 0, none⟩ = false := blk_frozen BC2.out 0
   have cf1 : w2.frozen? ⟨gc, 1, none⟩ = false := blk_frozen BC2.out 1
   have cf2 : w2.frozen? ⟨gc, 2, none⟩ = false := blk_frozen BC2.out 2
   have cf3 : w2.frozen? ⟨gc, 3, none⟩ = false := blk_frozen BC2.out 3
   go_wp2
   exact bodyPost_ret (results_cc rfl _ _ gr gc 26 95 #[.int .i64 a, .int .i64 o, .int .i64 f, .slice A0 l.length c, .int .i64 wt] #[.string (⟨#[]⟩ : ByteArray), .bool false, .string (⟨#[]⟩ : ByteArray), .bool false] (0, 0) (0, 0) _ _ rfl (blk_far (blk_far (blk_far (blk_far (blk_put (blk_put (blk_put (blk_put (blk_put (BR2.out) 0 _ rfl) 1 _ rfl) 2 _ rfl) 3 _ rfl) 4 _ rfl) ne_rc _) ne_rc _) ne_rc _) ne_rc _) Try.underlying26 rfl z11_ rfl (blk_put (blk_put (blk_put (blk_put (blk_far (blk_far (blk_far (blk_far (blk_far (BC2.out) ne_cr _) ne_cr _) ne_cr _) ne_cr _) ne_cr _) 0 _ rfl) 1 _ rfl) 2 _ rfl) 3 _ rfl) Try.underlying95 rfl z11_) rfl ⟨_, rfl, .inl ⟨rfl, rfl⟩, below_set (below_set (below_set (below_set (below_set (below_set (below_set (below_set (below_set (HV2.out) le_r) le_r) le_r) le_r) le_r) le_c) le_c) le_c) le_c⟩
  | true =>
   have h := H.out
   rw [if_pos rfl] at h
   clear H
   have hh0 := blk_cell BH2.out 1
   by_cases q0 : n0 < o
   ·have d0 : decide (n0 < o) = true := decide_eq_true q0
    rw [if_pos q0] at h
    obtain rfl := Option.some.inj h
    clear h q0
    obtain ⟨xc0, xc1, xc2, xc3, xc4⟩ := bc5_ BX2.out
    obtain ⟨rc0, rc1, rc2, rc3, rc4⟩ := bc5_ BR2.out
    have rf0 : w2.frozen? ⟨gr, 0, none⟩ = false := blk_frozen BR2.out 0
    have rf1 : w2.frozen? ⟨gr, 1, none⟩ = false := blk_frozen BR2.out 1
    have rf2 : w2.frozen? ⟨gr, 2, none⟩ = false := blk_frozen BR2.out 2
    have rf3 : w2.frozen? ⟨gr, 3, none⟩ = false := blk_frozen BR2.out 3
    have rf4 : w2.frozen? ⟨gr, 4, none⟩ = false := blk_frozen BR2.out 4
    obtain ⟨cc0, cc1, cc2, cc3⟩ := bc4_ BC2.out
    have cf0 : w2.frozen? ⟨gc, 0, none⟩ = false := blk_frozen BC2.out 0
    have cf1 : w2.frozen? ⟨gc, 1, none⟩ = false := blk_frozen BC2.out 1
    have cf2 : w2.frozen? ⟨gc, 2, none⟩ = false := blk_frozen BC2.out 2
    have cf3 : w2.frozen? ⟨gc, 3, none⟩ = false := blk_frozen BC2.out 3
    go_wp2
    exact bodyPost_ret (results_cc rfl _ _ gr gc 26 95 #[.int .i64 a, .int .i64 o, .int .i64 f, .slice A0 l.length c, .int .i64 wt] #[.string (⟨#[]⟩ : ByteArray), .bool false, .string (⟨#[]⟩ : ByteArray), .bool false] (0, 0) (0, 0) _ _ rfl (blk_far (blk_far (blk_far (blk_far (blk_put (blk_put (blk_put (blk_put (blk_put (BR2.out) 0 _ rfl) 1 _ rfl) 2 _ rfl) 3 _ rfl) 4 _ rfl) ne_rc _) ne_rc _) ne_rc _) ne_rc _) Try.underlying26 rfl z11_ rfl (blk_put (blk_put (blk_put (blk_put (blk_far (blk_far (blk_far (blk_far (blk_far (BC2.out) ne_cr _) ne_cr _) ne_cr _) ne_cr _) ne_cr _) 0 _ rfl) 1 _ rfl) 2 _ rfl) 3 _ rfl) Try.underlying95 rfl z11_) rfl ⟨_, rfl, .inl ⟨rfl, rfl⟩, below_set (below_set (below_set (below_set (below_set (below_set (below_set (below_set (below_set (HV2.out) le_r) le_r) le_r) le_r) le_r) le_c) le_c) le_c) le_c⟩
   have d0 : decide (n0 < o) = false := decide_eq_false q0
   rw [if_neg q0] at h
   clear q0
   replace h := Option.bind_eq_some_iff.1 h
   obtain ⟨l1, hcl, h⟩ := h
   have HCl := a0_ hcl
   have H := a0_ h
   clear hcl h
   obtain ⟨xc0, xc1, xc2, xc3, xc4⟩ := bc5_ BX2.out
   go_wp2_with fail
   (with_reducible refine (slices_Clone_string_string.calls A0 c l l1 _ (Kd.C_below HR0.out HV2.out) HC0.out HCl.out).mono ?_)
   rintro e w3 ⟨v1, rfl, hq, hb⟩
   obtain ⟨A1, c1, rfl⟩ := Kd.R_slice hq
   have BX3 := a0_ (blk_below BX2.out hb)
   have BR3 := a0_ (blk_below BR2.out hb)
   have BC3 := a0_ (blk_below BC2.out hb)
   have BH3 := a0_ (blk_below BH2.out hb)
   have HV3 := a0_ (below_step HV2.out hb)
   have HQ3 := a0_ (Kd.Q_of_R (Kd.R_lower hq HV2.out.size))
   have HL := a0_ (show gh < w3.heap.size from blk_lt BH3.out)
   clear hb hq BX2 BR2 BC2 BH2 HV2 xc0 xc1 xc2 xc3 xc4 hh0
   have xc3 := blk_cell BX3.out 3
   have xf3 : w3.frozen? ⟨w.heap.size, 3, none⟩ = false := blk_frozen BX3.out 3
   have xc1 := blk_cell BX3.out 1
   have hh0 := blk_cell BH3.out 1
   have ne_hx : gh ≠ w.heap.size := by have := HG.out; omega
   go_upto_region 6 with (fail)
   have T0 : Aside0 (link_Take.TI w ((w3.setCell ⟨w.heap.size, 3, none⟩ (.slice A1 l1.length c1)).alloc (.cells #[.string (⟨#[]⟩ : ByteArray), .bool false, .string (⟨#[]⟩ : ByteArray), .bool false] 95 (0, 0))) w.heap.size gr gc gh w3.heap.size #[.int .i64 a, .int .i64 o, .int .i64 f, .slice A1 l1.length c1, .int .i64 wt] #[.int .i64 kind, .int .i64 n0, .int .i64 n1, .int .i64 n2, .int .i64 n3, .string s] #[.string (⟨#[]⟩ : ByteArray), .bool false, .string (⟨#[]⟩ : ByteArray), .bool false] #[.int .i64 0, .int .i64 0, .int .i64 0, .slice none 0 0, .int .i64 0] #[.string (⟨#[]⟩ : ByteArray), .bool false, .string (⟨#[]⟩ : ByteArray), .bool false] (.slice A1 l1.length c1) l1) := ⟨⟨blk_alloc (blk_put BX3.out 3 _ rfl) _, blk_alloc (blk_far BR3.out ne_xr.symm _) _, blk_alloc (blk_far BC3.out ne_xc.symm _) _, blk_alloc (blk_far BH3.out ne_hx _) _, by simpa using blk_new (w3.setCell ⟨w.heap.size, 3, none⟩ (.slice A1 l1.length c1)) (.cells #[.string (⟨#[]⟩ : ByteArray), .bool false, .string (⟨#[]⟩ : ByteArray), .bool false] 95 (0, 0)), below_alloc (below_set HV3.out (Nat.le_refl _)) _, Kd.Q_alloc (link_Take.farQ HQ3.out BX3.out z17_ 3 _) _, by have := HG.out; have := HL.out; omega⟩⟩
   clear BX3 BR3 BC3 BH3 HV3 HQ3 xc3 xf3 xc1 hh0 HL
   generalize ((w3.setCell ⟨w.heap.size, 3, none⟩ (.slice A1 l1.length c1)).alloc (.cells #[.string (⟨#[]⟩ : ByteArray), .bool false, .string (⟨#[]⟩ : ByteArray), .bool false] 95 (0, 0))) = W4 at T0 ⊢
   generalize w3.heap.size = gd at T0 ⊢
   have hx1 := blk_cell T0.out.1 1
   have hh1 := blk_cell T0.out.2.2.2.1 1
   go_upto_if 38 with (fail)
   go_cut [] (fun wc => ∃ (o1 f1 wt1 : Int) (l2 : List ByteArray) (A2 : Option Addr) (c2 : Nat) (anew : Bool), Aside0 (link_Take.TI w wc w.heap.size gr gc gh gd #[.int .i64 a, .int .i64 o1, .int .i64 f1, .slice A2 l2.length c2, .int .i64 wt1] #[.int .i64 kind, .int .i64 n0, .int .i64 n1, .int .i64 n2, .int .i64 n3, .string s] #[.string (⟨#[]⟩ : ByteArray), .bool false, .string (⟨#[]⟩ : ByteArray), .bool anew] #[.int .i64 0, .int .i64 0, .int .i64 0, .slice none 0 0, .int .i64 0] #[.string (⟨#[]⟩ : ByteArray), .bool false, .string (⟨#[]⟩ : ByteArray), .bool false] (.slice A2 l2.length c2) l2) ∧ Aside0 (link_Take.rest k a o1 f1 l2 wt1 anew kind n1 n2 n3 s = some R))
   case first =>
    have ne_dx : gd ≠ w.heap.size := by have := T0.out.2.2.2.2.2.2.2; omega
    have ne_xd : w.heap.size ≠ gd := ne_dx.symm
    have ne_dh : gd ≠ gh := by have := T0.out.2.2.2.2.2.2.2; omega
    have ne_hd : gh ≠ gd := ne_dh.symm
    have hxf1 : W4.frozen? ⟨w.heap.size, 1, none⟩ = false := blk_frozen T0.out.1 1
    have hx2 := blk_cell T0.out.1 2
    have hxf2 : W4.frozen? ⟨w.heap.size, 2, none⟩ = false := blk_frozen T0.out.1 2
    have hx3 := blk_cell T0.out.1 3
    have hxf3 : W4.frozen? ⟨w.heap.size, 3, none⟩ = false := blk_frozen T0.out.1 3
    have hx4 := blk_cell T0.out.1 4
    have hxf4 : W4.frozen? ⟨w.heap.size, 4, none⟩ = false := blk_frozen T0.out.1 4
    have hd3 := blk_cell T0.out.2.2.2.2.1 3
    have hdf3 : W4.frozen? ⟨gd, 3, none⟩ = false := blk_frozen T0.out.2.2.2.2.1 3
    have h := H.out
    by_cases q1 : o < n0
    ·have d1 : decide (o < n0) = true := decide_eq_true q1
     rw [if_pos q1] at h
     by_cases q2 : o = 0
     ·have d2 : (o == 0) = true := beq_iff_eq.2 q2
      have d3 : (o != 0) = false := bne_eq_false_iff_eq.2 q2
      rw [if_pos q2] at h
      have H1 := a0_ h
      clear h q1 q2 H
      rw [d1]
      go_wp2
      go_meet
      case rel => exact ⟨n0, f, 1, l1, A1, c1, false, ⟨((T0.out.setD 3 _ rfl).setX 1 _ rfl).setX 4 _ rfl⟩, H1⟩
     ·have d2 : (o == 0) = false := beq_eq_false_iff_ne.2 q2
      have d3 : (o != 0) = true := bne_iff_ne.2 q2
      rw [if_neg q2] at h
      have H1 := a0_ h
      clear h q1 q2 H
      rw [d1]
      go_wp2
      go_meet
      case rel => exact ⟨n0, 1, 1, [], none, 0, true, ⟨(((((T0.out.setD 3 (.bool true) rfl).setX 3 (.slice none 0 0) rfl).newV (Kd.Q_nil _ _ _ _ _)).setX 2 _ rfl).setX 1 _ rfl).setX 4 _ rfl⟩, H1⟩
    ·have d1 : decide (o < n0) = false := decide_eq_false q1
     rw [if_neg q1] at h
     have H1 := a0_ h
     clear h q1 H
     rw [d1]
     go_wp2
     go_meet
     case rel => exact ⟨o, f, wt, l1, A1, c1, false, T0, H1⟩
   case rest =>
    obtain ⟨o1, f1, wt1, l2, A2, c2, anew, T1, H1⟩ := hcut
    clear T0 hx1 hh1 H HCl HRt HH d0 ne_hx
    have ne_dx : gd ≠ w.heap.size := by have := T1.out.2.2.2.2.2.2.2; omega
    have ne_xd : w.heap.size ≠ gd := ne_dx.symm
    have ne_dr : gd ≠ gr := by have := T1.out.2.2.2.2.2.2.2; omega
    have ne_dc : gd ≠ gc := by have := T1.out.2.2.2.2.2.2.2; omega
    have h := H1.out
    unfold link_Take.rest at h
    have hx0 := blk_cell T1.out.1 0
    have hh2 := blk_cell T1.out.2.2.2.1 2
    by_cases q1 : n1 = a
    ·rw [if_pos q1] at h
     have d1 : (n1 == a) = true := beq_iff_eq.2 q1
     have d2 : (n1 != a) = false := bne_eq_false_iff_eq.2 q1
     have H2 := a0_ h
     clear h H1 q1
     go_upto_region 14 with (fail)
     go_cut [76] (fun v76 wc => ∃ b : Bool, v76 = .bool b ∧ Aside0 (link_Take.TI w wc w.heap.size gr gc gh gd #[.int .i64 a, .int .i64 o1, .int .i64 f1, .slice A2 l2.length c2, .int .i64 wt1] #[.int .i64 kind, .int .i64 n0, .int .i64 n1, .int .i64 n2, .int .i64 n3, .string s] #[.string (⟨#[]⟩ : ByteArray), .bool false, .string (⟨#[]⟩ : ByteArray), .bool anew] #[.int .i64 0, .int .i64 0, .int .i64 0, .slice none 0 0, .int .i64 0] #[.string (⟨#[]⟩ : ByteArray), .bool false, .string (⟨#[]⟩ : ByteArray), .bool false] (.slice A2 l2.length c2) l2) ∧ Aside0 (b = (decide (f1 ≤ n3) && decide (n3 ≤ wrap64 (f1 + (l2.length : Int))))))
     case first =>
      have ch4 := blk_cell T1.out.2.2.2.1 4
      have cx2 := blk_cell T1.out.1 2
      have cx3 := blk_cell T1.out.1 3
      by_cases p1 : f1 ≤ n3
      ·have d3 : decide (f1 ≤ n3) = true := decide_eq_true p1
       go_wp2
       go_meet
       case rel => exact ⟨_, rfl, T1, ⟨by rw [d3]; rfl⟩⟩
      ·have d3 : decide (f1 ≤ n3) = false := decide_eq_false p1
       go_wp2
       go_meet
       case rel => exact ⟨_, rfl, T1, ⟨by rw [d3]; rfl⟩⟩
     case rest =>
      obtain ⟨b, rfl, T2, HB2⟩ := hcut
      clear T1 hx0 hh2
      have h := H2.out
      rw [← HB2.out] at h
      have H3 := a0_ h
      clear h H2 HB2
      go_upto_if 76 with (fail)
      go_cut [] (fun wc => ∃ (f2 : Int) (l3 : List ByteArray) (A3 : Option Addr) (c3 : Nat), Aside0 (link_Take.TI w wc w.heap.size gr gc gh gd #[.int .i64 a, .int .i64 o1, .int .i64 f2, .slice A3 l3.length c3, .int .i64 wt1] #[.int .i64 kind, .int .i64 n0, .int .i64 n1, .int .i64 n2, .int .i64 n3, .string s] #[.string (⟨#[]⟩ : ByteArray), .bool false, .string (⟨#[]⟩ : ByteArray), .bool anew] #[.int .i64 0, .int .i64 0, .int .i64 0, .slice none 0 0, .int .i64 0] #[.string (⟨#[]⟩ : ByteArray), .bool false, .string (⟨#[]⟩ : ByteArray), .bool false] (.slice A3 l3.length c3) l3) ∧ Aside0 (link_Take.tail k a o1 f2 l3 wt1 anew kind n2 s = some R))
      case first =>
       cases b with
       | false =>
        have h := H3.out
        rw [if_neg z17_] at h
        go_wp2
        go_meet
        case rel => exact ⟨f1, l2, A2, c2, T2, ⟨h⟩⟩
       | true =>
        have h := H3.out
        rw [if_pos rfl] at h
        by_cases q3 : 0 ≤ wrap64 (n3 - f1) ∧ wrap64 (n3 - f1) ≤ (l2.length : Int)
        ·rw [if_pos q3] at h
         obtain ⟨j, hj⟩ : ∃ j : Int, wrap64 (n3 - f1) = j := ⟨_, rfl⟩
         rw [hj] at h q3
         have H4 := a0_ h
         clear h H3
         obtain ⟨i0, hi0, _, hsz0, _⟩ := info_parts info9
         have hcut2 := cut_from (P := Try.prog) 24 9 .i64 Try.underlying24 hi0 1 hsz0 A2 l2.length c2 j q3.1 q3.2
         have hQ := a0_ (Kd.Q_drop (k := j.toNat) T2.out.2.2.2.2.2.2.1 z2_)
         obtain ⟨A3, hA3⟩ : ∃ A3, A3 = (if c2 = j.toNat then A2 else A2.map (·.add (j.toNat * 1))) := ⟨_, rfl⟩
         obtain ⟨c3, hc3⟩ : ∃ c3, c3 = c2 - j.toNat := ⟨_, rfl⟩
         obtain ⟨l3, hl3⟩ : ∃ l3, l3 = l2.drop j.toNat := ⟨_, rfl⟩
         have hlen : l3.length = l2.length - j.toNat := by rw [hl3, List.length_drop]
         rw [← hlen, ← hA3, ← hc3] at hcut2
         have HQ : Aside0 (Kd.Q Kd.string 9 wc w.heap.size (fun _ => True) (.slice A3 l3.length c3) l3) := ⟨by rw [hA3, hlen, hc3, hl3]; exact hQ.out⟩
         have H5 : Aside0 (link_Take.tail k a o1 n3 l3 wt1 anew kind n2 s = some R) := ⟨by rw [hl3]; exact H4.out⟩
         clear hQ H4 hA3 hc3 hl3 hlen hi0 hsz0 q3
         have ne_hx : gh ≠ w.heap.size := by have := HG.out; omega
         replace T2 := a0_ T2.out.drew
         replace HQ := a0_ (Kd.Q_drew HQ.out)
         go_upto_region 15 with (fail)
         refine st_ 14 (S := fun w' => w'.cell? ⟨gh, 4, none⟩ = some (.int .i64 n3) ∧ w'.cell? ⟨w.heap.size, 2, none⟩ = some (.int .i64 f1)) (ds := [13]) ⟨(blk_cell T2.out.2.2.2.1 4).trans rfl, (blk_cell T2.out.1 2).trans rfl⟩ (fun hHeld => ?_)
         generalize World.drew wc = V at T2 HQ hHeld ⊢
         have vx3 := blk_cell T2.out.1 3
         have vx3f : V.frozen? ⟨w.heap.size, 3, none⟩ = false := blk_frozen T2.out.1 3
         have vx2f : V.frozen? ⟨w.heap.size, 2, none⟩ = false := blk_frozen T2.out.1 2
         refine pu_ 0 (some 77) rfl rfl ?_
         refine pu_ 2 (some 79) rfl rfl ?_
         refine pu_ 4 (some 81) rfl rfl ?_
         refine pu_ 8 (some 85) rfl rfl ?_
         refine ta_ 3 (some 80) rfl rfl hHeld ?_
         refine ta_ 5 (some 82) rfl rfl hHeld ?_
         refine pu_ 6 (some 83) rfl rfl ?_
         refine ta_ 9 (some 86) rfl rfl hHeld ?_
         refine on_ 1 (some 78) rfl rfl (fun K hK => ?_)
         refine value_ (w1 := ?_) (v := ?_) (by rfl) rfl ?_ ?_
         rotate_left 2
         ·go_simp
          constructor
          ·rfl
          ·rfl
         refine hK.out _ _ ⟨hHeld.1, hHeld.2⟩ (fun hHeld => ?_)
         clear hK K
         refine norm_ (a' := ?_) ?_ ?_
         rotate_left
         ·show Act.put _ (some 78) _ = _
          exact put_
         refine pu_ 7 (some 84) rfl rfl ?_
         refine pu_ 10 (some 87) rfl rfl ?_
         refine on_ 11 (none) rfl rfl (fun K hK => ?_)
         refine skip_ (w1 := ?_) (by rfl) rfl ?_ ?_
         rotate_left
         ·go_simp
          rfl
         refine hK.out _ _ ⟨(cell_far (p := ⟨w.heap.size, _, none⟩) ne_hx _).trans (hHeld.1), (World.cell?_setCell_other _ _ _ _ (by simp)).trans (hHeld.2)⟩ (fun hHeld => ?_)
         clear hK K
         refine pu_ 12 (some 88) rfl rfl ?_
         refine la_ 13 (none) rfl rfl (fun K hK => ?_)
         have zc := hHeld.2
         refine skip_ (w1 := ?_) (by rfl) rfl ?_ ?_
         rotate_left
         ·go_simp
          rfl
         refine hK.out _ _ ?_
         clear hK K
         refine done_ z11_ ?_
         go_wp2
         go_meet
         case rel => exact ⟨n3, l3, A3, c3, ⟨((T2.out.newV HQ.out).setX 3 _ rfl).setX 2 _ rfl⟩, H5⟩
        ·rw [if_neg q3] at h
         cases h
      case rest =>
       obtain ⟨f2, l3, A3, c3, T3, H4⟩ := hcut
       clear T2 H3
       have h := H4.out
       unfold link_Take.tail at h
       have ck := blk_cell T3.out.2.2.2.1 0
       have ck2 := blk_cell T3.out.2.2.2.1 3
       have ck3 := blk_cell T3.out.1 4
       by_cases k1 : kind = 1
       ·rw [if_pos k1] at h
        have e1 : (kind == 1) = true := beq_iff_eq.2 k1
        by_cases k2 : n2 = wt1
        ·rw [if_pos k2] at h
         have e2 : (n2 == wt1) = true := beq_iff_eq.2 k2
         by_cases k3 : wt1 < 1099511627776
         ·rw [if_pos k3] at h
          have e3 : decide (wt1 < 1099511627776) = true := decide_eq_true k3
          replace h := Option.bind_eq_some_iff.1 h
          obtain ⟨t, ht, h⟩ := h
          obtain rfl := Option.some.inj h
          have HP := a0_ ht
          clear h ht H4 k1 k2 k3
          have ne_hd : gh ≠ gd := by have := T3.out.2.2.2.2.2.2.2; omega
          have ne_dh : gd ≠ gh := ne_hd.symm
          have ne_hx : gh ≠ w.heap.size := by have := HG.out; omega
          have sh5 := blk_cell T3.out.2.2.2.1 5
          have sd0 := blk_cell T3.out.2.2.2.2.1 0
          have sd0f : wc.frozen? ⟨gd, 0, none⟩ = false := blk_frozen T3.out.2.2.2.2.1 0
          have sd1 := blk_cell T3.out.2.2.2.2.1 1
          have sd1f : wc.frozen? ⟨gd, 1, none⟩ = false := blk_frozen T3.out.2.2.2.2.1 1
          have ck3f : wc.frozen? ⟨w.heap.size, 4, none⟩ = false := blk_frozen T3.out.1 4
          go_upto_region 20 with (fail)
          replace T3 := a0_ (((T3.out.setD 0 (.string s) rfl).setD 1 (.bool true) rfl).setX 4 (.int .i64 (wrap64 (wt1 + 1))) rfl)
          clear sh5 sd0 sd0f sd1 sd1f ck ck2 ck3 ck3f
          generalize ((wc.setCell ⟨gd, 0, none⟩ (.string s)).setCell ⟨gd, 1, none⟩ (.bool true)).setCell ⟨w.heap.size, 4, none⟩ (.int .i64 (wrap64 (wt1 + 1))) = W6 at T3 ⊢
          obtain ⟨px0, px1, px2, px3, px4⟩ := bc5_ T3.out.1
          have HKq := a0_ (Kd.Q_reads' T3.out.2.2.2.2.2.2.1)
          go_wp2_with fail
          (with_reducible refine (link_End_packet.calls k a o1 f2 A3 c3 l3 (wrap64 (wt1 + 1)) 2 0 (⟨#[]⟩ : ByteArray) t _ HKq.out.2.2 HKq.out.2.1 HP.out).mono ?_)
          rintro e w4 ⟨rfl, hb⟩
          have TP := a0_ (T3.out.call hb)
          clear hb px0 px1 px2 px3 px4
          have pd2 := blk_cell TP.out.2.2.2.2.1 2
          have pd2f : w4.frozen? ⟨gd, 2, none⟩ = false := blk_frozen TP.out.2.2.2.2.1 2
          go_upto_region 21 with (fail)
          replace TP := a0_ (TP.out.setD 2 (.string t) rfl)
          clear pd2 pd2f
          generalize w4.setCell ⟨gd, 2, none⟩ (.string t) = W5 at TP ⊢
          obtain ⟨ex0, ex1, ex2, ex3, ex4⟩ := bc5_ TP.out.1
          obtain ⟨ed0, ed1, ed2, ed3⟩ := bc4_ TP.out.2.2.2.2.1
          have er0 := blk_cell TP.out.2.1 0
          have er0f : W5.frozen? ⟨gr, 0, none⟩ = false := blk_frozen TP.out.2.1 0
          have er1 := blk_cell TP.out.2.1 1
          have er1f : W5.frozen? ⟨gr, 1, none⟩ = false := blk_frozen TP.out.2.1 1
          have er2 := blk_cell TP.out.2.1 2
          have er2f : W5.frozen? ⟨gr, 2, none⟩ = false := blk_frozen TP.out.2.1 2
          have er3 := blk_cell TP.out.2.1 3
          have er3f : W5.frozen? ⟨gr, 3, none⟩ = false := blk_frozen TP.out.2.1 3
          have er4 := blk_cell TP.out.2.1 4
          have er4f : W5.frozen? ⟨gr, 4, none⟩ = false := blk_frozen TP.out.2.1 4
          have ec0 := blk_cell TP.out.2.2.1 0
          have ec0f : W5.frozen? ⟨gc, 0, none⟩ = false := blk_frozen TP.out.2.2.1 0
          have ec1 := blk_cell TP.out.2.2.1 1
          have ec1f : W5.frozen? ⟨gc, 1, none⟩ = false := blk_frozen TP.out.2.2.1 1
          have ec2 := blk_cell TP.out.2.2.1 2
          have ec2f : W5.frozen? ⟨gc, 2, none⟩ = false := blk_frozen TP.out.2.2.1 2
          have ec3 := blk_cell TP.out.2.2.1 3
          have ec3f : W5.frozen? ⟨gc, 3, none⟩ = false := blk_frozen TP.out.2.2.1 3
          go_region
          go_wp2
          exact (have Z := ((((((((((TP.out).setR 0 _ rfl).setR 1 _ rfl).setR 2 _ rfl).setR 3 _ rfl).setR 4 _ rfl).setC 0 _ rfl).setC 1 _ rfl).setC 2 _ rfl).setC 3 _ rfl).drew; bodyPost_ret (results_cc rfl _ _ gr gc 26 95 #[.int .i64 a, .int .i64 o1, .int .i64 f2, .slice A3 l3.length c3, .int .i64 (wrap64 (wt1 + 1))] #[.string s, .bool true, .string t, .bool anew] (0, 0) (0, 0) _ _ rfl Z.2.1 Try.underlying26 rfl z11_ rfl Z.2.2.1 Try.underlying95 rfl z11_) rfl ⟨_, rfl, .inr Z.2.2.2.2.2.2.1, Z.2.2.2.2.2.1⟩)
         ·rw [if_neg k3] at h
          have e3 : decide (wt1 < 1099511627776) = false := decide_eq_false k3
          replace h := Option.bind_eq_some_iff.1 h
          obtain ⟨t, ht, h⟩ := h
          obtain rfl := Option.some.inj h
          have HP := a0_ ht
          clear h ht H4 k1 k2 k3
          obtain ⟨px0, px1, px2, px3, px4⟩ := bc5_ T3.out.1
          have HKq := a0_ (Kd.Q_reads' T3.out.2.2.2.2.2.2.1)
          go_wp2_with fail
          (with_reducible refine (link_End_packet.calls k a o1 f2 A3 c3 l3 wt1 2 0 (⟨#[]⟩ : ByteArray) t _ HKq.out.2.2 HKq.out.2.1 HP.out).mono ?_)
          rintro e w4 ⟨rfl, hb⟩
          have TP := a0_ (T3.out.call hb)
          clear hb px0 px1 px2 px3 px4
          have pd2 := blk_cell TP.out.2.2.2.2.1 2
          have pd2f : w4.frozen? ⟨gd, 2, none⟩ = false := blk_frozen TP.out.2.2.2.2.1 2
          go_upto_region 21 with (fail)
          replace TP := a0_ (TP.out.setD 2 (.string t) rfl)
          clear pd2 pd2f
          generalize w4.setCell ⟨gd, 2, none⟩ (.string t) = W5 at TP ⊢
          obtain ⟨ex0, ex1, ex2, ex3, ex4⟩ := bc5_ TP.out.1
          obtain ⟨ed0, ed1, ed2, ed3⟩ := bc4_ TP.out.2.2.2.2.1
          have er0 := blk_cell TP.out.2.1 0
          have er0f : W5.frozen? ⟨gr, 0, none⟩ = false := blk_frozen TP.out.2.1 0
          have er1 := blk_cell TP.out.2.1 1
          have er1f : W5.frozen? ⟨gr, 1, none⟩ = false := blk_frozen TP.out.2.1 1
          have er2 := blk_cell TP.out.2.1 2
          have er2f : W5.frozen? ⟨gr, 2, none⟩ = false := blk_frozen TP.out.2.1 2
          have er3 := blk_cell TP.out.2.1 3
          have er3f : W5.frozen? ⟨gr, 3, none⟩ = false := blk_frozen TP.out.2.1 3
          have er4 := blk_cell TP.out.2.1 4
          have er4f : W5.frozen? ⟨gr, 4, none⟩ = false := blk_frozen TP.out.2.1 4
          have ec0 := blk_cell TP.out.2.2.1 0
          have ec0f : W5.frozen? ⟨gc, 0, none⟩ = false := blk_frozen TP.out.2.2.1 0
          have ec1 := blk_cell TP.out.2.2.1 1
          have ec1f : W5.frozen? ⟨gc, 1, none⟩ = false := blk_frozen TP.out.2.2.1 1
          have ec2 := blk_cell TP.out.2.2.1 2
          have ec2f : W5.frozen? ⟨gc, 2, none⟩ = false := blk_frozen TP.out.2.2.1 2
          have ec3 := blk_cell TP.out.2.2.1 3
          have ec3f : W5.frozen? ⟨gc, 3, none⟩ = false := blk_frozen TP.out.2.2.1 3
          go_region
          go_wp2
          exact (have Z := ((((((((((TP.out).setR 0 _ rfl).setR 1 _ rfl).setR 2 _ rfl).setR 3 _ rfl).setR 4 _ rfl).setC 0 _ rfl).setC 1 _ rfl).setC 2 _ rfl).setC 3 _ rfl).drew; bodyPost_ret (results_cc rfl _ _ gr gc 26 95 #[.int .i64 a, .int .i64 o1, .int .i64 f2, .slice A3 l3.length c3, .int .i64 wt1] #[.string (⟨#[]⟩ : ByteArray), .bool false, .string t, .bool anew] (0, 0) (0, 0) _ _ rfl Z.2.1 Try.underlying26 rfl z11_ rfl Z.2.2.1 Try.underlying95 rfl z11_) rfl ⟨_, rfl, .inr Z.2.2.2.2.2.2.1, Z.2.2.2.2.2.1⟩)
        ·rw [if_neg k2] at h
         have e2 : (n2 == wt1) = false := beq_eq_false_iff_ne.2 k2
         replace h := Option.bind_eq_some_iff.1 h
         obtain ⟨t, ht, h⟩ := h
         obtain rfl := Option.some.inj h
         have HP := a0_ ht
         clear h ht H4 k1 k2
         obtain ⟨px0, px1, px2, px3, px4⟩ := bc5_ T3.out.1
         have HKq := a0_ (Kd.Q_reads' T3.out.2.2.2.2.2.2.1)
         go_wp2_with fail
         (with_reducible refine (link_End_packet.calls k a o1 f2 A3 c3 l3 wt1 2 0 (⟨#[]⟩ : ByteArray) t _ HKq.out.2.2 HKq.out.2.1 HP.out).mono ?_)
         rintro e w4 ⟨rfl, hb⟩
         have TP := a0_ (T3.out.call hb)
         clear hb px0 px1 px2 px3 px4
         have pd2 := blk_cell TP.out.2.2.2.2.1 2
         have pd2f : w4.frozen? ⟨gd, 2, none⟩ = false := blk_frozen TP.out.2.2.2.2.1 2
         go_upto_region 21 with (fail)
         replace TP := a0_ (TP.out.setD 2 (.string t) rfl)
         clear pd2 pd2f
         generalize w4.setCell ⟨gd, 2, none⟩ (.string t) = W5 at TP ⊢
         obtain ⟨ex0, ex1, ex2, ex3, ex4⟩ := bc5_ TP.out.1
         obtain ⟨ed0, ed1, ed2, ed3⟩ := bc4_ TP.out.2.2.2.2.1
         have er0 := blk_cell TP.out.2.1 0
         have er0f : W5.frozen? ⟨gr, 0, none⟩ = false := blk_frozen TP.out.2.1 0
         have er1 := blk_cell TP.out.2.1 1
         have er1f : W5.frozen? ⟨gr, 1, none⟩ = false := blk_frozen TP.out.2.1 1
         have er2 := blk_cell TP.out.2.1 2
         have er2f : W5.frozen? ⟨gr, 2, none⟩ = false := blk_frozen TP.out.2.1 2
         have er3 := blk_cell TP.out.2.1 3
         have er3f : W5.frozen? ⟨gr, 3, none⟩ = false := blk_frozen TP.out.2.1 3
         have er4 := blk_cell TP.out.2.1 4
         have er4f : W5.frozen? ⟨gr, 4, none⟩ = false := blk_frozen TP.out.2.1 4
         have ec0 := blk_cell TP.out.2.2.1 0
         have ec0f : W5.frozen? ⟨gc, 0, none⟩ = false := blk_frozen TP.out.2.2.1 0
         have ec1 := blk_cell TP.out.2.2.1 1
         have ec1f : W5.frozen? ⟨gc, 1, none⟩ = false := blk_frozen TP.out.2.2.1 1
         have ec2 := blk_cell TP.out.2.2.1 2
         have ec2f : W5.frozen? ⟨gc, 2, none⟩ = false := blk_frozen TP.out.2.2.1 2
         have ec3 := blk_cell TP.out.2.2.1 3
         have ec3f : W5.frozen? ⟨gc, 3, none⟩ = false := blk_frozen TP.out.2.2.1 3
         go_region
         go_wp2
         exact (have Z := ((((((((((TP.out).setR 0 _ rfl).setR 1 _ rfl).setR 2 _ rfl).setR 3 _ rfl).setR 4 _ rfl).setC 0 _ rfl).setC 1 _ rfl).setC 2 _ rfl).setC 3 _ rfl).drew; bodyPost_ret (results_cc rfl _ _ gr gc 26 95 #[.int .i64 a, .int .i64 o1, .int .i64 f2, .slice A3 l3.length c3, .int .i64 wt1] #[.string (⟨#[]⟩ : ByteArray), .bool false, .string t, .bool anew] (0, 0) (0, 0) _ _ rfl Z.2.1 Try.underlying26 rfl z11_ rfl Z.2.2.1 Try.underlying95 rfl z11_) rfl ⟨_, rfl, .inr Z.2.2.2.2.2.2.1, Z.2.2.2.2.2.1⟩)
       ·rw [if_neg k1] at h
        have e1 : (kind == 1) = false := beq_eq_false_iff_ne.2 k1
        obtain rfl := Option.some.inj h
        clear h H4 k1
        go_upto_region 21 with (fail)
        obtain ⟨ex0, ex1, ex2, ex3, ex4⟩ := bc5_ T3.out.1
        obtain ⟨ed0, ed1, ed2, ed3⟩ := bc4_ T3.out.2.2.2.2.1
        have er0 := blk_cell T3.out.2.1 0
        have er0f : wc.frozen? ⟨gr, 0, none⟩ = false := blk_frozen T3.out.2.1 0
        have er1 := blk_cell T3.out.2.1 1
        have er1f : wc.frozen? ⟨gr, 1, none⟩ = false := blk_frozen T3.out.2.1 1
        have er2 := blk_cell T3.out.2.1 2
        have er2f : wc.frozen? ⟨gr, 2, none⟩ = false := blk_frozen T3.out.2.1 2
        have er3 := blk_cell T3.out.2.1 3
        have er3f : wc.frozen? ⟨gr, 3, none⟩ = false := blk_frozen T3.out.2.1 3
        have er4 := blk_cell T3.out.2.1 4
        have er4f : wc.frozen? ⟨gr, 4, none⟩ = false := blk_frozen T3.out.2.1 4
        have ec0 := blk_cell T3.out.2.2.1 0
        have ec0f : wc.frozen? ⟨gc, 0, none⟩ = false := blk_frozen T3.out.2.2.1 0
        have ec1 := blk_cell T3.out.2.2.1 1
        have ec1f : wc.frozen? ⟨gc, 1, none⟩ = false := blk_frozen T3.out.2.2.1 1
        have ec2 := blk_cell T3.out.2.2.1 2
        have ec2f : wc.frozen? ⟨gc, 2, none⟩ = false := blk_frozen T3.out.2.2.1 2
        have ec3 := blk_cell T3.out.2.2.1 3
        have ec3f : wc.frozen? ⟨gc, 3, none⟩ = false := blk_frozen T3.out.2.2.1 3
        go_region
        go_wp2
        exact (have Z := ((((((((((T3.out).setR 0 _ rfl).setR 1 _ rfl).setR 2 _ rfl).setR 3 _ rfl).setR 4 _ rfl).setC 0 _ rfl).setC 1 _ rfl).setC 2 _ rfl).setC 3 _ rfl).drew; bodyPost_ret (results_cc rfl _ _ gr gc 26 95 #[.int .i64 a, .int .i64 o1, .int .i64 f2, .slice A3 l3.length c3, .int .i64 wt1] #[.string (⟨#[]⟩ : ByteArray), .bool false, .string (⟨#[]⟩ : ByteArray), .bool anew] (0, 0) (0, 0) _ _ rfl Z.2.1 Try.underlying26 rfl z11_ rfl Z.2.2.1 Try.underlying95 rfl z11_) rfl ⟨_, rfl, .inr Z.2.2.2.2.2.2.1, Z.2.2.2.2.2.1⟩)
    ·rw [if_neg q1] at h
     have d1 : (n1 == a) = false := beq_eq_false_iff_ne.2 q1
     have d2 : (n1 != a) = true := bne_iff_ne.2 q1
     replace h := Option.bind_eq_some_iff.1 h
     obtain ⟨t, ht, h⟩ := h
     obtain rfl := Option.some.inj h
     have HP := a0_ ht
     clear h ht H1 q1
     obtain ⟨px0, px1, px2, px3, px4⟩ := bc5_ T1.out.1
     have HKq := a0_ (Kd.Q_reads' T1.out.2.2.2.2.2.2.1)
     go_wp2_with fail
     (with_reducible refine (link_End_packet.calls k a o1 f1 A2 c2 l2 wt1 2 0 (⟨#[]⟩ : ByteArray) t _ HKq.out.2.2 HKq.out.2.1 HP.out).mono ?_)
     rintro e w4 ⟨rfl, hb⟩
     have TP := a0_ (T1.out.call hb)
     clear hb px0 px1 px2 px3 px4
     have pd2 := blk_cell TP.out.2.2.2.2.1 2
     have pd2f : w4.frozen? ⟨gd, 2, none⟩ = false := blk_frozen TP.out.2.2.2.2.1 2
     go_upto_region 13 with (fail)
     replace TP := a0_ (TP.out.setD 2 (.string t) rfl)
     clear pd2 pd2f
     generalize w4.setCell ⟨gd, 2, none⟩ (.string t) = W5 at TP ⊢
     obtain ⟨ex0, ex1, ex2, ex3, ex4⟩ := bc5_ TP.out.1
     obtain ⟨ed0, ed1, ed2, ed3⟩ := bc4_ TP.out.2.2.2.2.1
     have er0 := blk_cell TP.out.2.1 0
     have er0f : W5.frozen? ⟨gr, 0, none⟩ = false := blk_frozen TP.out.2.1 0
     have er1 := blk_cell TP.out.2.1 1
     have er1f : W5.frozen? ⟨gr, 1, none⟩ = false := blk_frozen TP.out.2.1 1
     have er2 := blk_cell TP.out.2.1 2
     have er2f : W5.frozen? ⟨gr, 2, none⟩ = false := blk_frozen TP.out.2.1 2
     have er3 := blk_cell TP.out.2.1 3
     have er3f : W5.frozen? ⟨gr, 3, none⟩ = false := blk_frozen TP.out.2.1 3
     have er4 := blk_cell TP.out.2.1 4
     have er4f : W5.frozen? ⟨gr, 4, none⟩ = false := blk_frozen TP.out.2.1 4
     have ec0 := blk_cell TP.out.2.2.1 0
     have ec0f : W5.frozen? ⟨gc, 0, none⟩ = false := blk_frozen TP.out.2.2.1 0
     have ec1 := blk_cell TP.out.2.2.1 1
     have ec1f : W5.frozen? ⟨gc, 1, none⟩ = false := blk_frozen TP.out.2.2.1 1
     have ec2 := blk_cell TP.out.2.2.1 2
     have ec2f : W5.frozen? ⟨gc, 2, none⟩ = false := blk_frozen TP.out.2.2.1 2
     have ec3 := blk_cell TP.out.2.2.1 3
     have ec3f : W5.frozen? ⟨gc, 3, none⟩ = false := blk_frozen TP.out.2.2.1 3
     go_region
     go_wp2
     exact (have Z := ((((((((((TP.out).setR 0 _ rfl).setR 1 _ rfl).setR 2 _ rfl).setR 3 _ rfl).setR 4 _ rfl).setC 0 _ rfl).setC 1 _ rfl).setC 2 _ rfl).setC 3 _ rfl).drew; bodyPost_ret (results_cc rfl _ _ gr gc 26 95 #[.int .i64 a, .int .i64 o1, .int .i64 f1, .slice A2 l2.length c2, .int .i64 wt1] #[.string (⟨#[]⟩ : ByteArray), .bool false, .string t, .bool anew] (0, 0) (0, 0) _ _ rfl Z.2.1 Try.underlying26 rfl z11_ rfl Z.2.2.1 Try.underlying95 rfl z11_) rfl ⟨_, rfl, .inr Z.2.2.2.2.2.2.1, Z.2.2.2.2.2.1⟩)
end Go.Proofs.Ytecfndblgefhdaa.P
