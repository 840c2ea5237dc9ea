/- LinkStays, walked by hand. -/
import Derived.Test.YtgfmdfgibkkfaaaKsPx1
import Derived.Test.YtgfmdfgibkkfaaaKsPx2
import Derived.Test.YtgfmdfgibkkfaaaKsPx3
import Derived.Test.YtgfmdfgibkkfaaaKsPx6
set_option linter.unusedVariables false
set_option linter.unusedSimpArgs false
namespace Go.Proofs.Ytgfmdfgibkkfaaa.P
open Go.RowKit Go.Proofs.YtgfmdfgibkkfaaaW.PrintWords Go.Proofs.YtgfmdfgibkkfaaaW.PrintLast Go.Proofs.YtgfmdfgibkkfaaaW.PrintMore
attribute [local go_sem] max2_int min2_int max_two min_two max_three min_three max_four min_four

theorem link_Take.Out_open {w W : World} {base : Nat} {A : Option Addr} {c : Nat} {l l1 : List ByteArray} {v : Value} (h : link_Take.Out W base A c l v l1) (hr : Kd.C Kd.string w A l.length l) (hc : l.length ≤ c) (hb : Below w.heap.size w W) :
    ∃ A1 c1, v = .slice A1 l1.length c1 ∧ l1.length ≤ c1 ∧ Kd.C Kd.string W A1 l1.length l1 := by
  rcases h with ⟨rfl, rfl⟩ | h
  · exact ⟨A, c, rfl, hc, Kd.C_below hr hb⟩
  · obtain ⟨A1, c1, rfl, _⟩ := Kd.Q_slice h
    have := Kd.Q_reads' h
    exact ⟨A1, c1, rfl, by omega, this.2.2⟩
def counterfoillaw15_LinkStays.fine (o wt : Int) (y : link_Take.Res) (e : Int) (z4 : List ByteArray) (rz ry : Bool) : Prop :=
  (e = 0 → rz = true ∧ (z4.length : Int) = wrap64 ((y.l.length : Int) + 1)) ∧ ry = true ∧ o ≤ y.o ∧ (wt ≤ y.w ∨ o < y.o) ∧ (y.has = true → 1 < y.w) ∧ (y.anew = true → y.l = [])
instance (o wt : Int) (y : link_Take.Res) (e : Int) (z4 : List ByteArray) (rz ry : Bool) : Decidable (counterfoillaw15_LinkStays.fine o wt y e z4 rz ry) := by unfold counterfoillaw15_LinkStays.fine; exact inferInstance
def counterfoillaw15_LinkStays.f (k : Nat) (a o f : Int) (l : List ByteArray) (wt : Int) (p s : ByteArray) : Option Bool :=
  (counterfoillaw15_few.f k a o f l wt).bind fun t => if t = true then
    (link_Right.f a o f l wt).bind fun r => if r = true then
      (if 549755813888 < f then counterfoillaw15_awake.f k else if 549755813888 < wt then counterfoillaw15_awake.f k else
        (link_Take.f k a o f l wt p).bind fun y => (link_Put.f k a y.o y.f y.l y.w s).bind fun z => (link_Right.f z.1 z.2.1 z.2.2.1 z.2.2.2.1 z.2.2.2.2.1).bind fun rz => (link_Right.f a y.o y.f y.l y.w).bind fun ry =>
          if counterfoillaw15_LinkStays.fine o wt y z.2.2.2.2.2.2 z.2.2.2.1 rz ry then counterfoillaw15_awake.f k else some false)
    else counterfoillaw15_awake.f k
  else counterfoillaw15_awake.f k
/-- THE ONE PURE STATEMENT of counterfoillaw15_LinkStays. -/
def counterfoillaw15_LinkStays.Pure : Prop := ∀ (a0_0 : Int) (a0_1 : Int) (a0_2 : Int) (l0_3 : List ByteArray) (a0_4 : Int) (a1 : ByteArray) (a2 : ByteArray), (Lit.int .i64 a0_0).wf = true → (Lit.int .i64 a0_1).wf = true → (Lit.int .i64 a0_2).wf = true → (l0_3.length * 16 ≤ 140737488351232 ∧ l0_3.length ≤ 9223372036854775807 ∧ ∀ y0 ∈ l0_3, y0.size ≤ 140737488351232) → (Lit.int .i64 a0_4).wf = true → a1.size ≤ 140737488351232 → a2.size ≤ 140737488351232 → ∃ k, counterfoillaw15_LinkStays.f k a0_0 a0_1 a0_2 l0_3 a0_4 a1 a2 = some true
set_option maxHeartbeats 4000000 in
set_option maxRecDepth 100000 in
theorem counterfoillaw15_LinkStays.calls (k : Nat) (a o f : Int) (A0 : Option Addr) (c : Nat) (l : List ByteArray) (wt : Int) (p s : ByteArray) (r : Bool) (w : World) (hr : Kd.C Kd.string w A0 l.length l) (hc : l.length ≤ c) (hr_ : r = true) (h : counterfoillaw15_LinkStays.f k a o f l wt p s = some r) :
    Calls Try.prog 8 #[.agg #[.int .i64 a, .int .i64 o, .int .i64 f, .slice A0 l.length c, .int .i64 wt], .string p, .string s] w fun e w' => e = .returned (.bool r) ∧ Below w.heap.size w w' := by
  subst hr_
  have HR0 := Aside0.mk hr
  have HC0 := Aside0.mk hc
  clear hr hc
  have HB0 := Aside0.mk (below_alloc (Below.refl w.heap.size w) (.cells #[.int .i64 a, .int .i64 o, .int .i64 f, .slice A0 l.length c, .int .i64 wt] 24 (0, 0)))
  have BX0 := Aside0.mk (blk_new w (.cells #[.int .i64 a, .int .i64 o, .int .i64 f, .slice A0 l.length c, .int .i64 wt] 24 (0, 0)))
  unfold counterfoillaw15_LinkStays.f at h
  replace h := Option.bind_eq_some_iff.1 h
  obtain ⟨t, ht, h⟩ := h
  have HT := Aside0.mk ht
  have H := Aside0.mk h
  clear ht h
  go_enter Try.func8, Try.ntmps8
  go_wp2_with fail
  (with_reducible refine (counterfoillaw15_few.calls k a o f A0 c l wt t _ (Kd.C_below HR0.out HB0.out) HC0.out HT.out).mono ?_)
  rintro e w1 ⟨rfl, hb⟩
  have HB1 := Aside0.mk (below_step HB0.out hb)
  have BX := Aside0.mk (blk_below BX0.out hb)
  clear hb HB0 BX0
  cases t with
  | false =>
    have HA : Aside0 (counterfoillaw15_awake.f k = some true) := ⟨by have h := H.out; rwa [if_neg (by decide)] at h⟩
    clear H
    go_wp2_with fail
    (with_reducible refine (counterfoillaw15_awake.calls k true _ HA.out).mono ?_)
    rintro e wz ⟨rfl, hb⟩
    have HF := Aside0.mk (below_step HB1.out hb)
    clear hb
    go_wp2
    go_ret
    exact ⟨rfl, HF.out⟩
  | true =>
    have h := H.out
    rw [if_pos rfl] at h
    clear H
    replace h := Option.bind_eq_some_iff.1 h
    obtain ⟨r, hr, h⟩ := h
    have HRt := Aside0.mk hr
    have H := Aside0.mk h
    clear hr h
    have x0 : w1.cell? ⟨w.heap.size, 0, none⟩ = some (.int .i64 a) := (blk_cell BX.out 0).trans rfl
    have x1 : w1.cell? ⟨w.heap.size, 1, none⟩ = some (.int .i64 o) := (blk_cell BX.out 1).trans rfl
    have x2 : w1.cell? ⟨w.heap.size, 2, none⟩ = some (.int .i64 f) := (blk_cell BX.out 2).trans rfl
    have x3 : w1.cell? ⟨w.heap.size, 3, none⟩ = some (.slice A0 l.length c) := (blk_cell BX.out 3).trans rfl
    have x4 : w1.cell? ⟨w.heap.size, 4, none⟩ = some (.int .i64 wt) := (blk_cell BX.out 4).trans rfl
    go_wp2_with fail
    (with_reducible refine (link_Right.calls a o f A0 c l wt r _ (Kd.C_below HR0.out HB1.out) HC0.out HRt.out).mono ?_)
    rintro e w2 ⟨rfl, hb⟩
    have HB2 := Aside0.mk (below_step HB1.out hb)
    have BX2 := Aside0.mk (blk_below BX.out hb)
    clear hb HB1 BX x0 x1 x2 x3 x4
    cases r with
    | false =>
      have HA : Aside0 (counterfoillaw15_awake.f k = some true) := ⟨by have h := H.out; rwa [if_neg (by decide)] at h⟩
      clear H
      go_wp2_with fail
      (with_reducible refine (counterfoillaw15_awake.calls k true _ HA.out).mono ?_)
      rintro e wz ⟨rfl, hb⟩
      have HF := Aside0.mk (below_step HB2.out hb)
      clear hb
      go_wp2
      go_ret
      exact ⟨rfl, HF.out⟩
    | true =>
      have h := H.out
      rw [if_pos rfl] at h
      clear H
      have x0 : w2.cell? ⟨w.heap.size, 0, none⟩ = some (.int .i64 a) := (blk_cell BX2.out 0).trans rfl
      have x1 : w2.cell? ⟨w.heap.size, 1, none⟩ = some (.int .i64 o) := (blk_cell BX2.out 1).trans rfl
      have x2 : w2.cell? ⟨w.heap.size, 2, none⟩ = some (.int .i64 f) := (blk_cell BX2.out 2).trans rfl
      have x3 : w2.cell? ⟨w.heap.size, 3, none⟩ = some (.slice A0 l.length c) := (blk_cell BX2.out 3).trans rfl
      have x4 : w2.cell? ⟨w.heap.size, 4, none⟩ = some (.int .i64 wt) := (blk_cell BX2.out 4).trans rfl
      by_cases q1 : 549755813888 < f
      · rw [if_pos q1] at h
        have d1 : decide (549755813888 < f) = true := decide_eq_true q1
        have HA := Aside0.mk h
        clear h q1
        go_wp2_with fail
        (with_reducible refine (counterfoillaw15_awake.calls k true _ HA.out).mono ?_)
        rintro e wz ⟨rfl, hb⟩
        have HF := Aside0.mk (below_step HB2.out hb)
        clear hb
        go_wp2
        go_ret
        exact ⟨rfl, HF.out⟩
      rw [if_neg q1] at h
      have d1 : decide (549755813888 < f) = false := decide_eq_false q1
      clear q1
      by_cases q2 : 549755813888 < wt
      · rw [if_pos q2] at h
        have d2 : decide (549755813888 < wt) = true := decide_eq_true q2
        have HA := Aside0.mk h
        clear h q2
        go_wp2_with fail
        (with_reducible refine (counterfoillaw15_awake.calls k true _ HA.out).mono ?_)
        rintro e wz ⟨rfl, hb⟩
        have HF := Aside0.mk (below_step HB2.out hb)
        clear hb
        go_wp2
        go_ret
        exact ⟨rfl, HF.out⟩
      rw [if_neg q2] at h
      have d2 : decide (549755813888 < wt) = false := decide_eq_false q2
      clear q2
      replace h := Option.bind_eq_some_iff.1 h
      obtain ⟨⟨yo, yf, yl, yw, ys, yh, yr, ya⟩, hy, h⟩ := h
      replace h := Option.bind_eq_some_iff.1 h
      obtain ⟨⟨z1, z2, z3, z4, z5, z6, z7⟩, hz, h⟩ := h
      replace h := Option.bind_eq_some_iff.1 h
      obtain ⟨rz, hrz, h⟩ := h
      replace h := Option.bind_eq_some_iff.1 h
      obtain ⟨ry, hry, h⟩ := h
      have HY := Aside0.mk hy
      have HZ := Aside0.mk (show link_Put.f k a yo yf yl yw s = some (z1, z2, z3, z4, z5, z6, z7) from hz)
      have HRZ := Aside0.mk (show link_Right.f z1 z2 z3 z4 z5 = some rz from hrz)
      have HRY := Aside0.mk (show link_Right.f a yo yf yl yw = some ry from hry)
      clear hy hz hrz hry
      by_cases hf : counterfoillaw15_LinkStays.fine o wt ⟨yo, yf, yl, yw, ys, yh, yr, ya⟩ z7 z4 rz ry
      · rw [if_pos hf] at h
        have HA := Aside0.mk h
        have HFI := Aside0.mk hf
        clear h hf
        go_wp2_with fail
        (with_reducible refine (link_Take.walk k a o f A0 c l wt p _ _ (Kd.C_below HR0.out HB2.out) HC0.out HY.out).mono ?_)
        rintro e w3 ⟨v3, rfl, hv, hb⟩
        obtain ⟨A1, c1, rfl, hc1, hC1⟩ := link_Take.Out_open hv (Kd.C_below HR0.out HB2.out) HC0.out hb
        have HC1 := Aside0.mk hC1
        have HL1 := Aside0.mk hc1
        have HB3 := Aside0.mk (below_step HB2.out hb)
        have BX3 := Aside0.mk (blk_below BX2.out hb)
        clear hv hb hc1 hC1 HB2 BX2 x0 x1 x2 x3 x4 HY
        go_upto_region 4 with (fail)
        have W3Y := Aside0.mk (below_alloc (below_alloc (Below.refl w3.heap.size w3) (.cells #[.int .i64 a, .int .i64 yo, .int .i64 yf, .slice A1 yl.length c1, .int .i64 yw] 24 (0, 0))) (.cells #[.string ys, .bool yh, .string yr, .bool ya] 45 (0, 0)))
        have HB4 := Aside0.mk (below_step HB3.out W3Y.out)
        have BX4 := Aside0.mk (blk_below BX3.out W3Y.out)
        have HC4 := Aside0.mk (Kd.C_below HC1.out W3Y.out)
        have BY4 := Aside0.mk (blk_alloc (blk_new w3 (.cells #[.int .i64 a, .int .i64 yo, .int .i64 yf, .slice A1 yl.length c1, .int .i64 yw] 24 (0, 0))) (.cells #[.string ys, .bool yh, .string yr, .bool ya] 45 (0, 0)))
        have BC4 : Aside0 (((w3.alloc (.cells #[.int .i64 a, .int .i64 yo, .int .i64 yf, .slice A1 yl.length c1, .int .i64 yw] 24 (0, 0))).alloc (.cells #[.string ys, .bool yh, .string yr, .bool ya] 45 (0, 0))).heap[w3.heap.size + 1]? = some (.cells #[.string ys, .bool yh, .string yr, .bool ya] 45 (0, 0))) := ⟨by simpa using blk_new (w3.alloc (.cells #[.int .i64 a, .int .i64 yo, .int .i64 yf, .slice A1 yl.length c1, .int .i64 yw] 24 (0, 0))) (.cells #[.string ys, .bool yh, .string yr, .bool ya] 45 (0, 0))⟩
        clear W3Y HB3 BX3 HC1
        generalize (w3.alloc (.cells #[.int .i64 a, .int .i64 yo, .int .i64 yf, .slice A1 yl.length c1, .int .i64 yw] 24 (0, 0))).alloc (.cells #[.string ys, .bool yh, .string yr, .bool ya] 45 (0, 0)) = W4 at HB4 BX4 HC4 BY4 BC4 ⊢
        generalize w3.heap.size + 1 = gc at BC4 ⊢
        generalize w3.heap.size = gy at BY4 ⊢
        have y0 : W4.cell? ⟨gy, 0, none⟩ = some (.int .i64 a) := (blk_cell BY4.out 0).trans rfl
        have y1 : W4.cell? ⟨gy, 1, none⟩ = some (.int .i64 yo) := (blk_cell BY4.out 1).trans rfl
        have y2 : W4.cell? ⟨gy, 2, none⟩ = some (.int .i64 yf) := (blk_cell BY4.out 2).trans rfl
        have y3 : W4.cell? ⟨gy, 3, none⟩ = some (.slice A1 yl.length c1) := (blk_cell BY4.out 3).trans rfl
        have y4 : W4.cell? ⟨gy, 4, none⟩ = some (.int .i64 yw) := (blk_cell BY4.out 4).trans rfl
        go_wp2_with fail
        (with_reducible refine (link_Put.calls k a yo yf A1 c1 yl yw s z1 z2 z3 z4 z5 z6 z7 _ HC4.out HL1.out HZ.out).mono ?_)
        rintro e w5 ⟨v5, rfl, hR, hb⟩
        obtain ⟨A2, c2, rfl⟩ := Kd.R_slice hR
        have HR5 := Aside0.mk (Kd.R_reads' hR)
        have HB5 := Aside0.mk (below_step HB4.out hb)
        have BX5 := Aside0.mk (blk_below BX4.out hb)
        have HC5 := Aside0.mk (Kd.C_below HC4.out hb)
        have BY5 := Aside0.mk (blk_below BY4.out hb)
        have BC5 := Aside0.mk (blk_below BC4.out hb)
        clear hR hb HB4 BX4 HC4 BY4 BC4 y0 y1 y2 y3 y4 HZ
        go_upto_region 5 with (fail)
        have HB6 := Aside0.mk (below_alloc HB5.out (.cells #[.int .i64 z1, .int .i64 z2, .int .i64 z3, .slice A2 z4.length c2, .int .i64 z5] 24 (0, 0)))
        have BX6 := Aside0.mk (blk_alloc BX5.out (.cells #[.int .i64 z1, .int .i64 z2, .int .i64 z3, .slice A2 z4.length c2, .int .i64 z5] 24 (0, 0)))
        have HC6 := Aside0.mk (Kd.C_alloc HC5.out (.cells #[.int .i64 z1, .int .i64 z2, .int .i64 z3, .slice A2 z4.length c2, .int .i64 z5] 24 (0, 0)))
        have BY6 := Aside0.mk (blk_alloc BY5.out (.cells #[.int .i64 z1, .int .i64 z2, .int .i64 z3, .slice A2 z4.length c2, .int .i64 z5] 24 (0, 0)))
        have BC6 := Aside0.mk (blk_alloc BC5.out (.cells #[.int .i64 z1, .int .i64 z2, .int .i64 z3, .slice A2 z4.length c2, .int .i64 z5] 24 (0, 0)))
        have BZ6 := Aside0.mk (blk_new w5 (.cells #[.int .i64 z1, .int .i64 z2, .int .i64 z3, .slice A2 z4.length c2, .int .i64 z5] 24 (0, 0)))
        have HZ6 := Aside0.mk (Kd.C_alloc HR5.out.2.2 (.cells #[.int .i64 z1, .int .i64 z2, .int .i64 z3, .slice A2 z4.length c2, .int .i64 z5] 24 (0, 0)))
        have HLz := Aside0.mk HR5.out.2.1
        clear HB5 BX5 HC5 BY5 BC5 HR5
        generalize w5.alloc (.cells #[.int .i64 z1, .int .i64 z2, .int .i64 z3, .slice A2 z4.length c2, .int .i64 z5] 24 (0, 0)) = W6 at HB6 BX6 HC6 BY6 BC6 BZ6 HZ6 ⊢
        generalize w5.heap.size = gz at BZ6 ⊢
        obtain ⟨f1, f2, f3, f4, f5, f6⟩ := HFI.out
        clear HFI
        subst f2
        have e2 : decide (o ≤ yo) = true := decide_eq_true f3
        obtain ⟨b1, hb1⟩ : ∃ b1, decide (wt ≤ yw) = b1 := ⟨_, rfl⟩
        have e4 : b1 = false → decide (o < yo) = true := fun hbf => decide_eq_true (f4.resolve_left (fun f4 => absurd f4 (of_decide_eq_false (hb1.trans hbf))))
        have e5 : yh = true → decide (1 < yw) = true := fun hh => decide_eq_true (f5 hh)
        by_cases hz7 : z7 = 0
        · obtain ⟨g1, g2⟩ := f1 hz7
          subst hz7
          subst g1
          have hlen : ((z4.length : Int) != wrap64 ((yl.length : Int) + 1)) = false := bne_eq_false_iff_eq.2 g2
          clear f1 f3 f4 f5 g2
          have y0 : W6.cell? ⟨gy, 0, none⟩ = some (.int .i64 a) := (blk_cell BY6.out 0).trans rfl
          have y1 : W6.cell? ⟨gy, 1, none⟩ = some (.int .i64 yo) := (blk_cell BY6.out 1).trans rfl
          have y2 : W6.cell? ⟨gy, 2, none⟩ = some (.int .i64 yf) := (blk_cell BY6.out 2).trans rfl
          have y3 : W6.cell? ⟨gy, 3, none⟩ = some (.slice A1 yl.length c1) := (blk_cell BY6.out 3).trans rfl
          have y4 : W6.cell? ⟨gy, 4, none⟩ = some (.int .i64 yw) := (blk_cell BY6.out 4).trans rfl
          have z0 : W6.cell? ⟨gz, 0, none⟩ = some (.int .i64 z1) := (blk_cell BZ6.out 0).trans rfl
          have z1' : W6.cell? ⟨gz, 1, none⟩ = some (.int .i64 z2) := (blk_cell BZ6.out 1).trans rfl
          have z2' : W6.cell? ⟨gz, 2, none⟩ = some (.int .i64 z3) := (blk_cell BZ6.out 2).trans rfl
          have z3' : W6.cell? ⟨gz, 3, none⟩ = some (.slice A2 z4.length c2) := (blk_cell BZ6.out 3).trans rfl
          have z4' : W6.cell? ⟨gz, 4, none⟩ = some (.int .i64 z5) := (blk_cell BZ6.out 4).trans rfl
          go_wp2_with fail
          (with_reducible refine (link_Right.calls z1 z2 z3 A2 c2 z4 z5 true _ HZ6.out HLz.out HRZ.out).mono ?_)
          rintro e w7 ⟨rfl, hb⟩
          have HB7 := Aside0.mk (below_step HB6.out hb)
          have BX7 := Aside0.mk (blk_below BX6.out hb)
          have HC7 := Aside0.mk (Kd.C_below HC6.out hb)
          have BY7 := Aside0.mk (blk_below BY6.out hb)
          have BC7 := Aside0.mk (blk_below BC6.out hb)
          have BZ7 := Aside0.mk (blk_below BZ6.out hb)
          clear hb HB6 BX6 HC6 BY6 BC6 BZ6 HZ6 y0 y1 y2 y3 y4 z0 z1' z2' z3' z4'
          have zz3 : w7.cell? ⟨gz, 3, none⟩ = some (.slice A2 z4.length c2) := (blk_cell BZ7.out 3).trans rfl
          have y0 : w7.cell? ⟨gy, 0, none⟩ = some (.int .i64 a) := (blk_cell BY7.out 0).trans rfl
          have y1 : w7.cell? ⟨gy, 1, none⟩ = some (.int .i64 yo) := (blk_cell BY7.out 1).trans rfl
          have y2 : w7.cell? ⟨gy, 2, none⟩ = some (.int .i64 yf) := (blk_cell BY7.out 2).trans rfl
          have y3 : w7.cell? ⟨gy, 3, none⟩ = some (.slice A1 yl.length c1) := (blk_cell BY7.out 3).trans rfl
          have y4 : w7.cell? ⟨gy, 4, none⟩ = some (.int .i64 yw) := (blk_cell BY7.out 4).trans rfl
          go_wp2_with fail
          (with_reducible refine (link_Right.calls a yo yf A1 c1 yl yw true _ HC7.out HL1.out HRY.out).mono ?_)
          rintro e w8 ⟨rfl, hb⟩
          have HB8 := Aside0.mk (below_step HB7.out hb)
          have BX8 := Aside0.mk (blk_below BX7.out hb)
          have BY8 := Aside0.mk (blk_below BY7.out hb)
          have BC8 := Aside0.mk (blk_below BC7.out hb)
          clear hb HB7 BX7 HC7 BY7 BC7 y0 y1 y2 y3 y4
          have y0 : w8.cell? ⟨gy, 0, none⟩ = some (.int .i64 a) := (blk_cell BY8.out 0).trans rfl
          have y1 : w8.cell? ⟨gy, 1, none⟩ = some (.int .i64 yo) := (blk_cell BY8.out 1).trans rfl
          have y2 : w8.cell? ⟨gy, 2, none⟩ = some (.int .i64 yf) := (blk_cell BY8.out 2).trans rfl
          have y3 : w8.cell? ⟨gy, 3, none⟩ = some (.slice A1 yl.length c1) := (blk_cell BY8.out 3).trans rfl
          have y4 : w8.cell? ⟨gy, 4, none⟩ = some (.int .i64 yw) := (blk_cell BY8.out 4).trans rfl
          have x0 : w8.cell? ⟨w.heap.size, 0, none⟩ = some (.int .i64 a) := (blk_cell BX8.out 0).trans rfl
          have x1 : w8.cell? ⟨w.heap.size, 1, none⟩ = some (.int .i64 o) := (blk_cell BX8.out 1).trans rfl
          have x2 : w8.cell? ⟨w.heap.size, 2, none⟩ = some (.int .i64 f) := (blk_cell BX8.out 2).trans rfl
          have x3 : w8.cell? ⟨w.heap.size, 3, none⟩ = some (.slice A0 l.length c) := (blk_cell BX8.out 3).trans rfl
          have x4 : w8.cell? ⟨w.heap.size, 4, none⟩ = some (.int .i64 wt) := (blk_cell BX8.out 4).trans rfl
          have c0 : w8.cell? ⟨gc, 0, none⟩ = some (.string ys) := (blk_cell BC8.out 0).trans rfl
          have c1 : w8.cell? ⟨gc, 1, none⟩ = some (.bool yh) := (blk_cell BC8.out 1).trans rfl
          have c2 : w8.cell? ⟨gc, 2, none⟩ = some (.string yr) := (blk_cell BC8.out 2).trans rfl
          have c3 : w8.cell? ⟨gc, 3, none⟩ = some (.bool ya) := (blk_cell BC8.out 3).trans rfl
          cases b1 with
          | true =>
            have e3 : decide (wt ≤ yw) = true := hb1
            cases yh with
            | true =>
              have e6 := e5 rfl
              cases ya with
              | true =>
                obtain rfl : yl = [] := f6 rfl
                clear f6 e4 e5 hb1
                go_wp2_with fail
                (with_reducible refine (counterfoillaw15_awake.calls k true _ HA.out).mono ?_)
                rintro e wz ⟨rfl, hb⟩
                have HF := Aside0.mk (below_step HB8.out hb)
                clear hb
                go_wp2
                go_ret
                exact ⟨rfl, HF.out⟩
              | false =>
                clear f6 e4 e5 hb1
                go_wp2_with fail
                (with_reducible refine (counterfoillaw15_awake.calls k true _ HA.out).mono ?_)
                rintro e wz ⟨rfl, hb⟩
                have HF := Aside0.mk (below_step HB8.out hb)
                clear hb
                go_wp2
                go_ret
                exact ⟨rfl, HF.out⟩
            | false =>
              cases ya with
              | true =>
                obtain rfl : yl = [] := f6 rfl
                clear f6 e4 e5 hb1
                go_wp2_with fail
                (with_reducible refine (counterfoillaw15_awake.calls k true _ HA.out).mono ?_)
                rintro e wz ⟨rfl, hb⟩
                have HF := Aside0.mk (below_step HB8.out hb)
                clear hb
                go_wp2
                go_ret
                exact ⟨rfl, HF.out⟩
              | false =>
                clear f6 e4 e5 hb1
                go_wp2_with fail
                (with_reducible refine (counterfoillaw15_awake.calls k true _ HA.out).mono ?_)
                rintro e wz ⟨rfl, hb⟩
                have HF := Aside0.mk (below_step HB8.out hb)
                clear hb
                go_wp2
                go_ret
                exact ⟨rfl, HF.out⟩
          | false =>
            have e3 : decide (wt ≤ yw) = false := hb1
            have e9 := e4 rfl
            cases yh with
            | true =>
              have e6 := e5 rfl
              cases ya with
              | true =>
                obtain rfl : yl = [] := f6 rfl
                clear f6 e4 e5 hb1
                go_wp2_with fail
                (with_reducible refine (counterfoillaw15_awake.calls k true _ HA.out).mono ?_)
                rintro e wz ⟨rfl, hb⟩
                have HF := Aside0.mk (below_step HB8.out hb)
                clear hb
                go_wp2
                go_ret
                exact ⟨rfl, HF.out⟩
              | false =>
                clear f6 e4 e5 hb1
                go_wp2_with fail
                (with_reducible refine (counterfoillaw15_awake.calls k true _ HA.out).mono ?_)
                rintro e wz ⟨rfl, hb⟩
                have HF := Aside0.mk (below_step HB8.out hb)
                clear hb
                go_wp2
                go_ret
                exact ⟨rfl, HF.out⟩
            | false =>
              cases ya with
              | true =>
                obtain rfl : yl = [] := f6 rfl
                clear f6 e4 e5 hb1
                go_wp2_with fail
                (with_reducible refine (counterfoillaw15_awake.calls k true _ HA.out).mono ?_)
                rintro e wz ⟨rfl, hb⟩
                have HF := Aside0.mk (below_step HB8.out hb)
                clear hb
                go_wp2
                go_ret
                exact ⟨rfl, HF.out⟩
              | false =>
                clear f6 e4 e5 hb1
                go_wp2_with fail
                (with_reducible refine (counterfoillaw15_awake.calls k true _ HA.out).mono ?_)
                rintro e wz ⟨rfl, hb⟩
                have HF := Aside0.mk (below_step HB8.out hb)
                clear hb
                go_wp2
                go_ret
                exact ⟨rfl, HF.out⟩
        · have e7 : (z7 == 0) = false := beq_eq_false_iff_ne.2 hz7
          have e8 : (z7 != 0) = true := bne_iff_ne.2 hz7
          clear f1 f3 f4 f5 hz7
          have y0 : W6.cell? ⟨gy, 0, none⟩ = some (.int .i64 a) := (blk_cell BY6.out 0).trans rfl
          have y1 : W6.cell? ⟨gy, 1, none⟩ = some (.int .i64 yo) := (blk_cell BY6.out 1).trans rfl
          have y2 : W6.cell? ⟨gy, 2, none⟩ = some (.int .i64 yf) := (blk_cell BY6.out 2).trans rfl
          have y3 : W6.cell? ⟨gy, 3, none⟩ = some (.slice A1 yl.length c1) := (blk_cell BY6.out 3).trans rfl
          have y4 : W6.cell? ⟨gy, 4, none⟩ = some (.int .i64 yw) := (blk_cell BY6.out 4).trans rfl
          go_wp2_with fail
          (with_reducible refine (link_Right.calls a yo yf A1 c1 yl yw true _ HC6.out HL1.out HRY.out).mono ?_)
          rintro e w8 ⟨rfl, hb⟩
          have HB8 := Aside0.mk (below_step HB6.out hb)
          have BX8 := Aside0.mk (blk_below BX6.out hb)
          have BY8 := Aside0.mk (blk_below BY6.out hb)
          have BC8 := Aside0.mk (blk_below BC6.out hb)
          clear hb HB6 BX6 HC6 BY6 BC6 y0 y1 y2 y3 y4
          have y0 : w8.cell? ⟨gy, 0, none⟩ = some (.int .i64 a) := (blk_cell BY8.out 0).trans rfl
          have y1 : w8.cell? ⟨gy, 1, none⟩ = some (.int .i64 yo) := (blk_cell BY8.out 1).trans rfl
          have y2 : w8.cell? ⟨gy, 2, none⟩ = some (.int .i64 yf) := (blk_cell BY8.out 2).trans rfl
          have y3 : w8.cell? ⟨gy, 3, none⟩ = some (.slice A1 yl.length c1) := (blk_cell BY8.out 3).trans rfl
          have y4 : w8.cell? ⟨gy, 4, none⟩ = some (.int .i64 yw) := (blk_cell BY8.out 4).trans rfl
          have x0 : w8.cell? ⟨w.heap.size, 0, none⟩ = some (.int .i64 a) := (blk_cell BX8.out 0).trans rfl
          have x1 : w8.cell? ⟨w.heap.size, 1, none⟩ = some (.int .i64 o) := (blk_cell BX8.out 1).trans rfl
          have x2 : w8.cell? ⟨w.heap.size, 2, none⟩ = some (.int .i64 f) := (blk_cell BX8.out 2).trans rfl
          have x3 : w8.cell? ⟨w.heap.size, 3, none⟩ = some (.slice A0 l.length c) := (blk_cell BX8.out 3).trans rfl
          have x4 : w8.cell? ⟨w.heap.size, 4, none⟩ = some (.int .i64 wt) := (blk_cell BX8.out 4).trans rfl
          have c0 : w8.cell? ⟨gc, 0, none⟩ = some (.string ys) := (blk_cell BC8.out 0).trans rfl
          have c1 : w8.cell? ⟨gc, 1, none⟩ = some (.bool yh) := (blk_cell BC8.out 1).trans rfl
          have c2 : w8.cell? ⟨gc, 2, none⟩ = some (.string yr) := (blk_cell BC8.out 2).trans rfl
          have c3 : w8.cell? ⟨gc, 3, none⟩ = some (.bool ya) := (blk_cell BC8.out 3).trans rfl
          cases b1 with
          | true =>
            have e3 : decide (wt ≤ yw) = true := hb1
            cases yh with
            | true =>
              have e6 := e5 rfl
              cases ya with
              | true =>
                obtain rfl : yl = [] := f6 rfl
                clear f6 e4 e5 hb1
                go_wp2_with fail
                (with_reducible refine (counterfoillaw15_awake.calls k true _ HA.out).mono ?_)
                rintro e wz ⟨rfl, hb⟩
                have HF := Aside0.mk (below_step HB8.out hb)
                clear hb
                go_wp2
                go_ret
                exact ⟨rfl, HF.out⟩
              | false =>
                clear f6 e4 e5 hb1
                go_wp2_with fail
                (with_reducible refine (counterfoillaw15_awake.calls k true _ HA.out).mono ?_)
                rintro e wz ⟨rfl, hb⟩
                have HF := Aside0.mk (below_step HB8.out hb)
                clear hb
                go_wp2
                go_ret
                exact ⟨rfl, HF.out⟩
            | false =>
              cases ya with
              | true =>
                obtain rfl : yl = [] := f6 rfl
                clear f6 e4 e5 hb1
                go_wp2_with fail
                (with_reducible refine (counterfoillaw15_awake.calls k true _ HA.out).mono ?_)
                rintro e wz ⟨rfl, hb⟩
                have HF := Aside0.mk (below_step HB8.out hb)
                clear hb
                go_wp2
                go_ret
                exact ⟨rfl, HF.out⟩
              | false =>
                clear f6 e4 e5 hb1
                go_wp2_with fail
                (with_reducible refine (counterfoillaw15_awake.calls k true _ HA.out).mono ?_)
                rintro e wz ⟨rfl, hb⟩
                have HF := Aside0.mk (below_step HB8.out hb)
                clear hb
                go_wp2
                go_ret
                exact ⟨rfl, HF.out⟩
          | false =>
            have e3 : decide (wt ≤ yw) = false := hb1
            have e9 := e4 rfl
            cases yh with
            | true =>
              have e6 := e5 rfl
              cases ya with
              | true =>
                obtain rfl : yl = [] := f6 rfl
                clear f6 e4 e5 hb1
                go_wp2_with fail
                (with_reducible refine (counterfoillaw15_awake.calls k true _ HA.out).mono ?_)
                rintro e wz ⟨rfl, hb⟩
                have HF := Aside0.mk (below_step HB8.out hb)
                clear hb
                go_wp2
                go_ret
                exact ⟨rfl, HF.out⟩
              | false =>
                clear f6 e4 e5 hb1
                go_wp2_with fail
                (with_reducible refine (counterfoillaw15_awake.calls k true _ HA.out).mono ?_)
                rintro e wz ⟨rfl, hb⟩
                have HF := Aside0.mk (below_step HB8.out hb)
                clear hb
                go_wp2
                go_ret
                exact ⟨rfl, HF.out⟩
            | false =>
              cases ya with
              | true =>
                obtain rfl : yl = [] := f6 rfl
                clear f6 e4 e5 hb1
                go_wp2_with fail
                (with_reducible refine (counterfoillaw15_awake.calls k true _ HA.out).mono ?_)
                rintro e wz ⟨rfl, hb⟩
                have HF := Aside0.mk (below_step HB8.out hb)
                clear hb
                go_wp2
                go_ret
                exact ⟨rfl, HF.out⟩
              | false =>
                clear f6 e4 e5 hb1
                go_wp2_with fail
                (with_reducible refine (counterfoillaw15_awake.calls k true _ HA.out).mono ?_)
                rintro e wz ⟨rfl, hb⟩
                have HF := Aside0.mk (below_step HB8.out hb)
                clear hb
                go_wp2
                go_ret
                exact ⟨rfl, HF.out⟩
      · rw [if_neg hf] at h
        cases h
end Go.Proofs.Ytgfmdfgibkkfaaa.P
