import Derived.Test.YtgfmdfgibkkfaaaKtPx1
import Derived.Test.YtgfmdfgibkkfaaaKtPx12
import Derived.Test.YtgfmdfgibkkfaaaKtPx3
import Derived.Test.YtgfmdfgibkkfaaaKtPx6
import Derived.Test.YtgfmdfgibkkfaaaKtPx7
set_option linter.unusedVariables false
set_option linter.unusedSimpArgs false
namespace Go.Proofs.Ytgfmdfgibkkfaaa.P
open Go.RowKit Go.Proofs.YtgfmdfgibkkfaaaW.PrintWords Go.Proofs.YtgfmdfgibkkfaaaW.PrintLast Go.Proofs.YtgfmdfgibkkfaaaW.PrintMore
attribute [local go_sem] max2_int min2_int max_two min_two max_three min_three max_four min_four
theorem counterfoillaw15_ref.plain (a o f w : Int) (A0 : Option Addr) (n c : Nat) (W : World) : Calls Try.prog 16 #[.agg #[.int .i64 a, .int .i64 o, .int .i64 f, .slice A0 n c, .int .i64 w]] W fun e w' => e = .returned (.agg #[.int .i64 a, .int .i64 o, .int .i64 f, .int .i64 w, .slice A0 n c]) ∧ Below W.heap.size W w' := by
  have HB := Aside0.mk (below_alloc (below_alloc (Below.refl W.heap.size W) (.cells #[.int .i64 a, .int .i64 o, .int .i64 f, .slice A0 n c, .int .i64 w] 24 (0, 0))) (.cells #[.int .i64 0, .int .i64 0, .int .i64 0, .int .i64 0, .slice none 0 0] 33 (0, 0)))
  have BX := Aside0.mk (blk_alloc (blk_new W (.cells #[.int .i64 a, .int .i64 o, .int .i64 f, .slice A0 n c, .int .i64 w] 24 (0, 0))) (.cells #[.int .i64 0, .int .i64 0, .int .i64 0, .int .i64 0, .slice none 0 0] 33 (0, 0)))
  have BR : Aside0 (((W.alloc (.cells #[.int .i64 a, .int .i64 o, .int .i64 f, .slice A0 n c, .int .i64 w] 24 (0, 0))).alloc (.cells #[.int .i64 0, .int .i64 0, .int .i64 0, .int .i64 0, .slice none 0 0] 33 (0, 0))).heap[W.heap.size + 1]? = some (.cells #[.int .i64 0, .int .i64 0, .int .i64 0, .int .i64 0, .slice none 0 0] 33 (0, 0))) := ⟨by simpa using blk_new (W.alloc _) (.cells #[.int .i64 0, .int .i64 0, .int .i64 0, .int .i64 0, .slice none 0 0] 33 (0, 0))⟩
  go_enter Try.func16, Try.ntmps16
  go_upto_region 1 with (fail)
  generalize (W.alloc (.cells #[.int .i64 a, .int .i64 o, .int .i64 f, .slice A0 n c, .int .i64 w] 24 (0, 0))).alloc (.cells #[.int .i64 0, .int .i64 0, .int .i64 0, .int .i64 0, .slice none 0 0] 33 (0, 0)) = V at HB BX BR ⊢
  have hne : W.heap.size ≠ W.heap.size + 1 := by omega
  have hle : Aside0 (W.heap.size ≤ W.heap.size + 1) := ⟨by omega⟩
  generalize W.heap.size + 1 = gr at BR hne hle ⊢
  have x0 : V.cell? ⟨W.heap.size, 0, none⟩ = some (.int .i64 a) := (blk_cell BX.out 0).trans rfl
  have x1 : V.cell? ⟨W.heap.size, 1, none⟩ = some (.int .i64 o) := (blk_cell BX.out 1).trans rfl
  have x2 : V.cell? ⟨W.heap.size, 2, none⟩ = some (.int .i64 f) := (blk_cell BX.out 2).trans rfl
  have x3 : V.cell? ⟨W.heap.size, 3, none⟩ = some (.slice A0 n c) := (blk_cell BX.out 3).trans rfl
  have x4 : V.cell? ⟨W.heap.size, 4, none⟩ = some (.int .i64 w) := (blk_cell BX.out 4).trans rfl
  have r0 : V.cell? ⟨gr, 0, none⟩ = some (.int .i64 0) := (blk_cell BR.out 0).trans rfl
  have r1 : V.cell? ⟨gr, 1, none⟩ = some (.int .i64 0) := (blk_cell BR.out 1).trans rfl
  have r2 : V.cell? ⟨gr, 2, none⟩ = some (.int .i64 0) := (blk_cell BR.out 2).trans rfl
  have r3 : V.cell? ⟨gr, 3, none⟩ = some (.int .i64 0) := (blk_cell BR.out 3).trans rfl
  have r4 : V.cell? ⟨gr, 4, none⟩ = some (.slice none 0 0) := (blk_cell BR.out 4).trans rfl
  have rf0 : V.frozen? ⟨gr, 0, none⟩ = false := blk_frozen BR.out 0
  have rf1 : V.frozen? ⟨gr, 1, none⟩ = false := blk_frozen BR.out 1
  have rf2 : V.frozen? ⟨gr, 2, none⟩ = false := blk_frozen BR.out 2
  have rf3 : V.frozen? ⟨gr, 3, none⟩ = false := blk_frozen BR.out 3
  have rf4 : V.frozen? ⟨gr, 4, none⟩ = false := blk_frozen BR.out 4
  go_wp2
  exact bodyPost_ret (results_single rfl (.cell gr 33 #[.int .i64 a, .int .i64 o, .int .i64 f, .int .i64 w, .slice A0 n c] (0, 0) _ rfl (blk_put (blk_put (blk_put (blk_put (blk_put BR.out 0 _ rfl) 1 _ rfl) 2 _ rfl) 3 _ rfl) 4 _ rfl) Try.underlying33 rfl (by kernel_rfl) .nil)) rfl ⟨rfl, below_set (below_set (below_set (below_set (below_set HB.out hle.out) hle.out) hle.out) hle.out) hle.out⟩
theorem eqA45_ (d : Nat) (w : World) (x0 y0 : ByteArray) (x1 y1 : Bool) (x2 y2 : ByteArray) (x3 y3 : Bool) :
    (Op.equalIn (d + 2) 45 (.agg #[.string x0, .bool x1, .string x2, .bool x3]) (.agg #[.string y0, .bool y1, .string y2, .bool y3])).run Try.prog w = .ok (x0.toList == y0.toList && (x1 == y1 && (x2.toList == y2.toList && (x3 == y3)))) w := by
  refine eqA_of Try.underlying45 (by kernel_rfl) ?_
  refine eqf_cons (by rfl) (by go_simp; rfl) (by go_simp; rfl) (by go_simp) ?_
  refine eqf_cons (by rfl) (by go_simp; rfl) (by go_simp; rfl) (by go_simp) ?_
  refine eqf_cons (by rfl) (by go_simp; rfl) (by go_simp; rfl) (by go_simp) ?_
  exact eqf_last (by rfl) (by go_simp; rfl) (by go_simp; rfl) (by go_simp)
theorem eqS45_ (d : Nat) (w : World) (x0 : ByteArray) (x1 : Bool) (x2 : ByteArray) (x3 : Bool) :
    (Op.equalIn (d + 2) 45 (.agg #[.string x0, .bool x1, .string x2, .bool x3]) (.agg #[.string x0, .bool x1, .string x2, .bool x3])).run Try.prog w = .ok true w := by
  rw [eqA45_]
  simp
attribute [local go_sem high] eqS45_
theorem link_Take.Out_open {w W : World} {base : Nat} {A : Option Addr} {c : Nat} {l l1 : List ByteArray} {v : Value} (h : link_Take.Out W base A c l v l1) (hr : Kd.C Kd.string w A l.length l) (hc : l.length ≤ c) (hb : Below w.heap.size w W) :
    ∃ A1 c1, v = .slice A1 l1.length c1 ∧ l1.length ≤ c1 ∧ Kd.C Kd.string W A1 l1.length l1 := by
  rcases h with ⟨rfl, rfl⟩ | h
  · exact ⟨A, c, rfl, hc, Kd.C_below hr hb⟩
  · obtain ⟨A1, c1, rfl, _⟩ := Kd.Q_slice h
    have := Kd.Q_reads' h
    exact ⟨A1, c1, rfl, by omega, this.2.2⟩
theorem counterfoilref15_Take.Out_open {w W : World} {base : Nat} {A : Option Addr} {c : Nat} {l l1 : List ByteArray} {v : Value} (h : counterfoilref15_Take.Out W base A c l v l1) (hr : Kd.C Kd.string w A l.length l) (hc : l.length ≤ c) (hb : Below w.heap.size w W) :
    ∃ A1 c1, v = .slice A1 l1.length c1 ∧ l1.length ≤ c1 ∧ Kd.C Kd.string W A1 l1.length l1 := by
  rcases h with ⟨rfl, rfl⟩ | h
  · exact ⟨A, c, rfl, hc, Kd.C_below hr hb⟩
  · obtain ⟨A1, c1, rfl, _⟩ := Kd.Q_slice h
    have := Kd.Q_reads' h
    exact ⟨A1, c1, rfl, by omega, this.2.2⟩
def counterfoillaw15_LinkTakes.f (k : Nat) (a o f : Int) (l : List ByteArray) (wt : Int) (p : ByteArray) : Option Bool :=
  (counterfoillaw15_few.f k a o f l wt).bind fun t => if t = true then
    (link_Take.f k a o f l wt p).bind fun y => (link_Right.f a o f l wt).bind fun r => if r = true then
      (counterfoilref15_Take.f k a o f wt l p).bind fun z => (counterfoilref15_Equal.f k a y.o y.f y.w y.l a z.o z.f z.w z.l).bind fun e => if e = true ∧ y.s = z.s ∧ y.has = z.has ∧ y.reply = z.reply ∧ y.anew = z.anew then counterfoillaw15_awake.f k else some false
    else (counterfoilref15_Equal.f k a y.o y.f y.w y.l a o f wt l).bind fun e => if e = true ∧ y.s = (⟨#[]⟩ : ByteArray) ∧ y.has = false ∧ y.reply = (⟨#[]⟩ : ByteArray) ∧ y.anew = false then counterfoillaw15_awake.f k else some false
  else counterfoillaw15_awake.f k
def counterfoillaw15_LinkTakes.Pure : Prop := ∀ (a0_0 : Int) (a0_1 : Int) (a0_2 : Int) (l0_3 : List ByteArray) (a0_4 : Int) (a1 : ByteArray), (Lit.int .i64 a0_0).wf = true → (Lit.int .i64 a0_1).wf = true → (Lit.int .i64 a0_2).wf = true → (l0_3.length * 16 ≤ 140737488351232 ∧ l0_3.length ≤ 9223372036854775807 ∧ ∀ y0 ∈ l0_3, y0.size ≤ 140737488351232) → (Lit.int .i64 a0_4).wf = true → a1.size ≤ 140737488351232 → ∃ k, counterfoillaw15_LinkTakes.f k a0_0 a0_1 a0_2 l0_3 a0_4 a1 = some true
set_option maxHeartbeats 4000000 in
set_option maxRecDepth 100000 in
theorem counterfoillaw15_LinkTakes.calls (k : Nat) (a o f : Int) (A0 : Option Addr) (c : Nat) (l : List ByteArray) (wt : Int) (p : ByteArray) (r : Bool) (w : World) (hr : Kd.C Kd.string w A0 l.length l) (hc : l.length ≤ c) (hr_ : r = true) (h : counterfoillaw15_LinkTakes.f k a o f l wt p = some r) :
    Calls Try.prog 5 #[.agg #[.int .i64 a, .int .i64 o, .int .i64 f, .slice A0 l.length c, .int .i64 wt], .string p] w fun e w' => e = .returned (.bool r) ∧ Below w.heap.size w w' := by
  subst hr_
  have HR0 := Aside0.mk hr
  have HC0 := Aside0.mk hc
  clear hr hc
  have HB0 := Aside0.mk (below_alloc (Below.refl w.heap.size w) (.cells #[.int .i64 a, .int .i64 o, .int .i64 f, .slice A0 l.length c, .int .i64 wt] 24 (0, 0)))
  have BX0 := Aside0.mk (blk_new w (.cells #[.int .i64 a, .int .i64 o, .int .i64 f, .slice A0 l.length c, .int .i64 wt] 24 (0, 0)))
  unfold counterfoillaw15_LinkTakes.f at h
  replace h := Option.bind_eq_some_iff.1 h
  obtain ⟨t, ht, h⟩ := h
  have HT := Aside0.mk ht
  have H := Aside0.mk h
  clear ht h
  go_enter Try.func5, Try.ntmps5
  go_wp2_with fail
  (with_reducible refine (counterfoillaw15_few.calls k a o f A0 c l wt t _ (Kd.C_below HR0.out HB0.out) HC0.out HT.out).mono ?_)
  rintro e w1 ⟨rfl, hb⟩
  have HB1 := Aside0.mk (below_step HB0.out hb)
  have BX1 := Aside0.mk (blk_below BX0.out hb)
  clear hb HB0 BX0
  cases t with
  | false =>
    have HA : Aside0 (counterfoillaw15_awake.f k = some true) := ⟨by have h := H.out; rwa [if_neg (by decide)] at h⟩
    clear H
    go_wp2_with fail
    (with_reducible refine (counterfoillaw15_awake.calls k true _ HA.out).mono ?_)
    rintro e wz ⟨rfl, hb⟩
    have HF := Aside0.mk (below_step HB1.out hb)
    clear hb
    go_wp2
    go_ret
    exact ⟨rfl, HF.out⟩
  | true =>
    have h := H.out
    rw [if_pos rfl] at h
    clear H
    replace h := Option.bind_eq_some_iff.1 h
    obtain ⟨⟨yo, yf, yl, yw, ys, yh, yr, ya⟩, hy, h⟩ := h
    have HY := Aside0.mk hy
    have H := Aside0.mk h
    clear hy h
    have x0 : w1.cell? ⟨w.heap.size, 0, none⟩ = some (.int .i64 a) := (blk_cell BX1.out 0).trans rfl
    have x1 : w1.cell? ⟨w.heap.size, 1, none⟩ = some (.int .i64 o) := (blk_cell BX1.out 1).trans rfl
    have x2 : w1.cell? ⟨w.heap.size, 2, none⟩ = some (.int .i64 f) := (blk_cell BX1.out 2).trans rfl
    have x3 : w1.cell? ⟨w.heap.size, 3, none⟩ = some (.slice A0 l.length c) := (blk_cell BX1.out 3).trans rfl
    have x4 : w1.cell? ⟨w.heap.size, 4, none⟩ = some (.int .i64 wt) := (blk_cell BX1.out 4).trans rfl
    go_wp2_with fail
    (with_reducible refine (link_Take.walk k a o f A0 c l wt p _ _ (Kd.C_below HR0.out HB1.out) HC0.out HY.out).mono ?_)
    rintro e w2 ⟨v3, rfl, hv, hb⟩
    obtain ⟨A1, c1, rfl, hc1, hC1⟩ := link_Take.Out_open hv (Kd.C_below HR0.out HB1.out) HC0.out hb
    have HC1 := Aside0.mk hC1
    have HLy := Aside0.mk hc1
    have HB3 := Aside0.mk (below_step HB1.out hb)
    have BX3 := Aside0.mk (blk_below BX1.out hb)
    clear hv hb hc1 hC1 HB1 BX1 x0 x1 x2 x3 x4 HY
    go_upto_region 4 with (fail)
    have W3Y := Aside0.mk (below_alloc (below_alloc (Below.refl w2.heap.size w2) (.cells #[.int .i64 a, .int .i64 yo, .int .i64 yf, .slice A1 yl.length c1, .int .i64 yw] 24 (0, 0))) (.cells #[.string ys, .bool yh, .string yr, .bool ya] 45 (0, 0)))
    have HBw := Aside0.mk (below_step HB3.out W3Y.out)
    have BX := Aside0.mk (blk_below BX3.out W3Y.out)
    have HCyw := Aside0.mk (Kd.C_below HC1.out W3Y.out)
    have BY := Aside0.mk (blk_alloc (blk_new w2 (.cells #[.int .i64 a, .int .i64 yo, .int .i64 yf, .slice A1 yl.length c1, .int .i64 yw] 24 (0, 0))) (.cells #[.string ys, .bool yh, .string yr, .bool ya] 45 (0, 0)))
    have BC : Aside0 (((w2.alloc (.cells #[.int .i64 a, .int .i64 yo, .int .i64 yf, .slice A1 yl.length c1, .int .i64 yw] 24 (0, 0))).alloc (.cells #[.string ys, .bool yh, .string yr, .bool ya] 45 (0, 0))).heap[w2.heap.size + 1]? = some (.cells #[.string ys, .bool yh, .string yr, .bool ya] 45 (0, 0))) := ⟨by simpa using blk_new (w2.alloc (.cells #[.int .i64 a, .int .i64 yo, .int .i64 yf, .slice A1 yl.length c1, .int .i64 yw] 24 (0, 0))) (.cells #[.string ys, .bool yh, .string yr, .bool ya] 45 (0, 0))⟩
    clear W3Y HB3 BX3 HC1
    generalize (w2.alloc (.cells #[.int .i64 a, .int .i64 yo, .int .i64 yf, .slice A1 yl.length c1, .int .i64 yw] 24 (0, 0))).alloc (.cells #[.string ys, .bool yh, .string yr, .bool ya] 45 (0, 0)) = W4 at HBw BX HCyw BY BC ⊢
    generalize w2.heap.size + 1 = gc at BC ⊢
    generalize w2.heap.size = gy at BY ⊢
    have h := H.out
    clear H
    replace h := Option.bind_eq_some_iff.1 h
    obtain ⟨r, hr, h⟩ := h
    have HRt := Aside0.mk hr
    have H := Aside0.mk h
    clear hr h
    have x0 : W4.cell? ⟨w.heap.size, 0, none⟩ = some (.int .i64 a) := (blk_cell BX.out 0).trans rfl
    have x1 : W4.cell? ⟨w.heap.size, 1, none⟩ = some (.int .i64 o) := (blk_cell BX.out 1).trans rfl
    have x2 : W4.cell? ⟨w.heap.size, 2, none⟩ = some (.int .i64 f) := (blk_cell BX.out 2).trans rfl
    have x3 : W4.cell? ⟨w.heap.size, 3, none⟩ = some (.slice A0 l.length c) := (blk_cell BX.out 3).trans rfl
    have x4 : W4.cell? ⟨w.heap.size, 4, none⟩ = some (.int .i64 wt) := (blk_cell BX.out 4).trans rfl
    go_wp2_with fail
    (with_reducible refine (link_Right.calls a o f A0 c l wt r _ (Kd.C_below HR0.out HBw.out) HC0.out HRt.out).mono ?_)
    rintro e w5 ⟨rfl, hb⟩
    replace HBw := Aside0.mk (below_step HBw.out hb)
    replace BX := Aside0.mk (blk_below BX.out hb)
    replace BY := Aside0.mk (blk_below BY.out hb)
    replace BC := Aside0.mk (blk_below BC.out hb)
    replace HCyw := Aside0.mk (Kd.C_below HCyw.out hb)
    clear hb x0 x1 x2 x3 x4 HRt
    cases r with
    | false =>
      have h := H.out
      rw [if_neg (by decide)] at h
      clear H
      replace h := Option.bind_eq_some_iff.1 h
      obtain ⟨e, he, h⟩ := h
      have HE0 := Aside0.mk (show counterfoilref15_Equal.f k a yo yf yw yl a o f wt l = some e from he)
      clear he
      by_cases hf : e = true ∧ ys = (⟨#[]⟩ : ByteArray) ∧ yh = false ∧ yr = (⟨#[]⟩ : ByteArray) ∧ ya = false
      · have h' : counterfoillaw15_awake.f k = some true := by rw [← h]; exact (if_pos hf).symm
        have HA := Aside0.mk h'
        obtain ⟨rfl, rfl, rfl, rfl, rfl⟩ := hf
        have HE := HE0
        clear h h' HE0
        have HCsw := Aside0.mk (Kd.C_below HR0.out HBw.out)
        have HLs := HC0
        go_upto_region 5 with (fail)
        replace BY := Aside0.mk (blk_drew BY.out)
        replace BX := Aside0.mk (blk_drew BX.out)
        replace BC := Aside0.mk (blk_drew BC.out)
        replace HBw := Aside0.mk (below_drew1 HBw.out)
        replace HCyw := Aside0.mk (Kd.C_drew HCyw.out)
        replace HCsw := Aside0.mk (Kd.C_drew HCsw.out)
        refine start_ (n := 14) (S := fun w' => w'.cell? ⟨gy, 0, none⟩ = some (.int .i64 a) ∧ w'.cell? ⟨gy, 1, none⟩ = some (.int .i64 yo) ∧ w'.cell? ⟨gy, 2, none⟩ = some (.int .i64 yf) ∧ w'.cell? ⟨gy, 3, none⟩ = some (.slice A1 yl.length c1) ∧ w'.cell? ⟨gy, 4, none⟩ = some (.int .i64 yw) ∧ w'.cell? ⟨w.heap.size, 0, none⟩ = some (.int .i64 a) ∧ w'.cell? ⟨w.heap.size, 1, none⟩ = some (.int .i64 o) ∧ w'.cell? ⟨w.heap.size, 2, none⟩ = some (.int .i64 f) ∧ w'.cell? ⟨w.heap.size, 3, none⟩ = some (.slice A0 l.length c) ∧ w'.cell? ⟨w.heap.size, 4, none⟩ = some (.int .i64 wt) ∧ w'.cell? ⟨gc, 0, none⟩ = some (.string (⟨#[]⟩ : ByteArray)) ∧ w'.cell? ⟨gc, 1, none⟩ = some (.bool false) ∧ w'.cell? ⟨gc, 2, none⟩ = some (.string (⟨#[]⟩ : ByteArray)) ∧ w'.cell? ⟨gc, 3, none⟩ = some (.bool false)) (ds := []) #[false, false, false, false, false, false, false, false, false, false, false, false, false, false] (by kernel_rfl) rfl rfl ⟨(blk_cell BY.out 0).trans rfl, (blk_cell BY.out 1).trans rfl, (blk_cell BY.out 2).trans rfl, (blk_cell BY.out 3).trans rfl, (blk_cell BY.out 4).trans rfl, (blk_cell BX.out 0).trans rfl, (blk_cell BX.out 1).trans rfl, (blk_cell BX.out 2).trans rfl, (blk_cell BX.out 3).trans rfl, (blk_cell BX.out 4).trans rfl, (blk_cell BC.out 0).trans rfl, (blk_cell BC.out 1).trans rfl, (blk_cell BC.out 2).trans rfl, (blk_cell BC.out 3).trans rfl⟩ (fun hHeld => ?_)
        generalize World.drew w5 = V at HBw HCyw HCsw hHeld ⊢
        refine take_ (i := 0) (N := some 25) (v := ?_) (a' := ?_) #[true, false, false, false, false, false, false, false, false, false, false, false, false, false] rfl rfl (by kernel_rfl) (fun _ _ _ h => h) (Or.inl ⟨by rfl, ?_⟩) hHeld ?_ ?_
        rotate_left
        · rintro w' ⟨s0, s1, s2, s3, s4, s5, s6, s7, s8, s9, s10, s11, s12, s13⟩
          go_simp
          with_reducible rfl
        rotate_left
        · exact put_
        refine take_ (i := 2) (N := some 27) (v := ?_) (a' := ?_) #[true, false, true, false, false, false, false, false, false, false, false, false, false, false] rfl rfl (by kernel_rfl) (fun _ _ _ h => h) (Or.inl ⟨by rfl, ?_⟩) hHeld ?_ ?_
        rotate_left
        · rintro w' ⟨s0, s1, s2, s3, s4, s5, s6, s7, s8, s9, s10, s11, s12, s13⟩
          go_simp
          with_reducible rfl
        rotate_left
        · exact put_
        refine one_ (i := 1) (N := some 26) #[true, true, true, false, false, false, false, false, false, false, false, false, false, false] rfl rfl (by kernel_rfl) (by decide) (fun K hK => ?_)
        refine goes_ Try.func16 (by kernel_rfl) rfl #[.agg #[.int .i64 a, .int .i64 yo, .int .i64 yf, .slice A1 yl.length c1, .int .i64 yw]] (by rfl) rfl rfl (by simp only [List.map_toArray, List.map_cons, List.map_nil]; rfl) ?_
        with_reducible refine (counterfoillaw15_ref.plain a yo yf yw A1 yl.length c1 _).mono ?_
        rintro e wa_ ⟨rfl, hb⟩
        refine ⟨_, rfl, ?_⟩
        have Hba := Aside0.mk hb
        have HBa := Aside0.mk (below_step HBw.out hb)
        have HCya := Aside0.mk (Kd.C_below HCyw.out hb)
        have HCsa := Aside0.mk (Kd.C_below HCsw.out hb)
        clear hb HBw HCyw HCsw
        refine hK.out _ _ ⟨(Hba.out.cell (World.block_lt_of_cell? _ _ (hHeld.1))).trans (hHeld.1), (Hba.out.cell (World.block_lt_of_cell? _ _ (hHeld.2.1))).trans (hHeld.2.1), (Hba.out.cell (World.block_lt_of_cell? _ _ (hHeld.2.2.1))).trans (hHeld.2.2.1), (Hba.out.cell (World.block_lt_of_cell? _ _ (hHeld.2.2.2.1))).trans (hHeld.2.2.2.1), (Hba.out.cell (World.block_lt_of_cell? _ _ (hHeld.2.2.2.2.1))).trans (hHeld.2.2.2.2.1), (Hba.out.cell (World.block_lt_of_cell? _ _ (hHeld.2.2.2.2.2.1))).trans (hHeld.2.2.2.2.2.1), (Hba.out.cell (World.block_lt_of_cell? _ _ (hHeld.2.2.2.2.2.2.1))).trans (hHeld.2.2.2.2.2.2.1), (Hba.out.cell (World.block_lt_of_cell? _ _ (hHeld.2.2.2.2.2.2.2.1))).trans (hHeld.2.2.2.2.2.2.2.1), (Hba.out.cell (World.block_lt_of_cell? _ _ (hHeld.2.2.2.2.2.2.2.2.1))).trans (hHeld.2.2.2.2.2.2.2.2.1), (Hba.out.cell (World.block_lt_of_cell? _ _ (hHeld.2.2.2.2.2.2.2.2.2.1))).trans (hHeld.2.2.2.2.2.2.2.2.2.1), (Hba.out.cell (World.block_lt_of_cell? _ _ (hHeld.2.2.2.2.2.2.2.2.2.2.1))).trans (hHeld.2.2.2.2.2.2.2.2.2.2.1), (Hba.out.cell (World.block_lt_of_cell? _ _ (hHeld.2.2.2.2.2.2.2.2.2.2.2.1))).trans (hHeld.2.2.2.2.2.2.2.2.2.2.2.1), (Hba.out.cell (World.block_lt_of_cell? _ _ (hHeld.2.2.2.2.2.2.2.2.2.2.2.2.1))).trans (hHeld.2.2.2.2.2.2.2.2.2.2.2.2.1), (Hba.out.cell (World.block_lt_of_cell? _ _ (hHeld.2.2.2.2.2.2.2.2.2.2.2.2.2))).trans (hHeld.2.2.2.2.2.2.2.2.2.2.2.2.2)⟩ (fun hHeld => ?_)
        clear hK K
        refine norm_ (a' := ?_) ?_ ?_
        rotate_left
        · show Act.put _ (some 26) _ = _
          exact put_
        refine one_ (i := 3) (N := some 28) #[true, true, true, true, false, false, false, false, false, false, false, false, false, false] rfl rfl (by kernel_rfl) (by decide) (fun K hK => ?_)
        refine goes_ Try.func16 (by kernel_rfl) rfl #[.agg #[.int .i64 a, .int .i64 o, .int .i64 f, .slice A0 l.length c, .int .i64 wt]] (by rfl) rfl rfl (by simp only [List.map_toArray, List.map_cons, List.map_nil]; rfl) ?_
        with_reducible refine (counterfoillaw15_ref.plain a o f wt A0 l.length c _).mono ?_
        rintro e wb_ ⟨rfl, hb⟩
        refine ⟨_, rfl, ?_⟩
        have Hbb := Aside0.mk hb
        have HBb := Aside0.mk (below_step HBa.out hb)
        have HCyb := Aside0.mk (Kd.C_below HCya.out hb)
        have HCsb := Aside0.mk (Kd.C_below HCsa.out hb)
        clear hb HBa HCya HCsa
        refine hK.out _ _ ⟨(Hbb.out.cell (World.block_lt_of_cell? _ _ (hHeld.1))).trans (hHeld.1), (Hbb.out.cell (World.block_lt_of_cell? _ _ (hHeld.2.1))).trans (hHeld.2.1), (Hbb.out.cell (World.block_lt_of_cell? _ _ (hHeld.2.2.1))).trans (hHeld.2.2.1), (Hbb.out.cell (World.block_lt_of_cell? _ _ (hHeld.2.2.2.1))).trans (hHeld.2.2.2.1), (Hbb.out.cell (World.block_lt_of_cell? _ _ (hHeld.2.2.2.2.1))).trans (hHeld.2.2.2.2.1), (Hbb.out.cell (World.block_lt_of_cell? _ _ (hHeld.2.2.2.2.2.1))).trans (hHeld.2.2.2.2.2.1), (Hbb.out.cell (World.block_lt_of_cell? _ _ (hHeld.2.2.2.2.2.2.1))).trans (hHeld.2.2.2.2.2.2.1), (Hbb.out.cell (World.block_lt_of_cell? _ _ (hHeld.2.2.2.2.2.2.2.1))).trans (hHeld.2.2.2.2.2.2.2.1), (Hbb.out.cell (World.block_lt_of_cell? _ _ (hHeld.2.2.2.2.2.2.2.2.1))).trans (hHeld.2.2.2.2.2.2.2.2.1), (Hbb.out.cell (World.block_lt_of_cell? _ _ (hHeld.2.2.2.2.2.2.2.2.2.1))).trans (hHeld.2.2.2.2.2.2.2.2.2.1), (Hbb.out.cell (World.block_lt_of_cell? _ _ (hHeld.2.2.2.2.2.2.2.2.2.2.1))).trans (hHeld.2.2.2.2.2.2.2.2.2.2.1), (Hbb.out.cell (World.block_lt_of_cell? _ _ (hHeld.2.2.2.2.2.2.2.2.2.2.2.1))).trans (hHeld.2.2.2.2.2.2.2.2.2.2.2.1), (Hbb.out.cell (World.block_lt_of_cell? _ _ (hHeld.2.2.2.2.2.2.2.2.2.2.2.2.1))).trans (hHeld.2.2.2.2.2.2.2.2.2.2.2.2.1), (Hbb.out.cell (World.block_lt_of_cell? _ _ (hHeld.2.2.2.2.2.2.2.2.2.2.2.2.2))).trans (hHeld.2.2.2.2.2.2.2.2.2.2.2.2.2)⟩ (fun hHeld => ?_)
        clear hK K
        refine norm_ (a' := ?_) ?_ ?_
        rotate_left
        · show Act.put _ (some 28) _ = _
          exact put_
        refine one_ (i := 4) (N := some 29) #[true, true, true, true, true, false, false, false, false, false, false, false, false, false] rfl rfl (by kernel_rfl) (by decide) (fun K hK => ?_)
        refine goes_ Try.func17 (by kernel_rfl) rfl #[.agg #[.int .i64 a, .int .i64 yo, .int .i64 yf, .int .i64 yw, .slice A1 yl.length c1], .agg #[.int .i64 a, .int .i64 o, .int .i64 f, .int .i64 wt, .slice A0 l.length c]] (by rfl) rfl rfl (by simp only [List.map_toArray, List.map_cons, List.map_nil]; rfl) ?_
        with_reducible refine (counterfoilref15_Equal.calls k a yo yf yw A1 c1 yl a o f wt A0 c l true _ HCyb.out HLy.out HCsb.out HLs.out HE.out).mono ?_
        rintro e wc_ ⟨rfl, hb⟩
        refine ⟨_, rfl, ?_⟩
        have Hbc := Aside0.mk hb
        have HBc := Aside0.mk (below_step HBb.out hb)
        have HCyc := Aside0.mk (Kd.C_below HCyb.out hb)
        have HCsc := Aside0.mk (Kd.C_below HCsb.out hb)
        clear hb HBb HCyb HCsb
        refine hK.out _ _ ⟨(Hbc.out.cell (World.block_lt_of_cell? _ _ (hHeld.1))).trans (hHeld.1), (Hbc.out.cell (World.block_lt_of_cell? _ _ (hHeld.2.1))).trans (hHeld.2.1), (Hbc.out.cell (World.block_lt_of_cell? _ _ (hHeld.2.2.1))).trans (hHeld.2.2.1), (Hbc.out.cell (World.block_lt_of_cell? _ _ (hHeld.2.2.2.1))).trans (hHeld.2.2.2.1), (Hbc.out.cell (World.block_lt_of_cell? _ _ (hHeld.2.2.2.2.1))).trans (hHeld.2.2.2.2.1), (Hbc.out.cell (World.block_lt_of_cell? _ _ (hHeld.2.2.2.2.2.1))).trans (hHeld.2.2.2.2.2.1), (Hbc.out.cell (World.block_lt_of_cell? _ _ (hHeld.2.2.2.2.2.2.1))).trans (hHeld.2.2.2.2.2.2.1), (Hbc.out.cell (World.block_lt_of_cell? _ _ (hHeld.2.2.2.2.2.2.2.1))).trans (hHeld.2.2.2.2.2.2.2.1), (Hbc.out.cell (World.block_lt_of_cell? _ _ (hHeld.2.2.2.2.2.2.2.2.1))).trans (hHeld.2.2.2.2.2.2.2.2.1), (Hbc.out.cell (World.block_lt_of_cell? _ _ (hHeld.2.2.2.2.2.2.2.2.2.1))).trans (hHeld.2.2.2.2.2.2.2.2.2.1), (Hbc.out.cell (World.block_lt_of_cell? _ _ (hHeld.2.2.2.2.2.2.2.2.2.2.1))).trans (hHeld.2.2.2.2.2.2.2.2.2.2.1), (Hbc.out.cell (World.block_lt_of_cell? _ _ (hHeld.2.2.2.2.2.2.2.2.2.2.2.1))).trans (hHeld.2.2.2.2.2.2.2.2.2.2.2.1), (Hbc.out.cell (World.block_lt_of_cell? _ _ (hHeld.2.2.2.2.2.2.2.2.2.2.2.2.1))).trans (hHeld.2.2.2.2.2.2.2.2.2.2.2.2.1), (Hbc.out.cell (World.block_lt_of_cell? _ _ (hHeld.2.2.2.2.2.2.2.2.2.2.2.2.2))).trans (hHeld.2.2.2.2.2.2.2.2.2.2.2.2.2)⟩ (fun hHeld => ?_)
        clear hK K
        refine norm_ (a' := ?_) ?_ ?_
        rotate_left
        · show Act.put _ (some 29) _ = _
          exact put_
        refine pure_ (i := 5) (N := some 30) (v := ?_) (a' := ?_) #[true, true, true, true, true, true, false, false, false, false, false, false, false, false] rfl rfl (by kernel_rfl) (fun _ _ _ h => h) (Or.inl ⟨by rfl, ?_⟩) ?_ ?_
        rotate_left
        · intro w'
          go_simp
          with_reducible rfl
        rotate_left
        · exact put_
        refine pure_ (i := 7) (N := some 32) (v := ?_) (a' := ?_) #[true, true, true, true, true, true, false, true, false, false, false, false, false, false] rfl rfl (by kernel_rfl) (fun _ _ _ h => h) (Or.inl ⟨by rfl, ?_⟩) ?_ ?_
        rotate_left
        · intro w'
          go_simp
          with_reducible rfl
        rotate_left
        · exact put_
        refine take_ (i := 6) (N := some 31) (v := ?_) (a' := ?_) #[true, true, true, true, true, true, true, true, false, false, false, false, false, false] rfl rfl (by kernel_rfl) (fun _ _ _ h => h) (Or.inl ⟨by rfl, ?_⟩) hHeld ?_ ?_
        rotate_left
        · rintro w' ⟨s0, s1, s2, s3, s4, s5, s6, s7, s8, s9, s10, s11, s12, s13⟩
          go_simp
          with_reducible rfl
        rotate_left
        · exact put_
        refine pure_ (i := 8) (N := some 33) (v := ?_) (a' := ?_) #[true, true, true, true, true, true, true, true, true, false, false, false, false, false] rfl rfl (by kernel_rfl) (fun _ _ _ h => h) (Or.inl ⟨by rfl, ?_⟩) ?_ ?_
        rotate_left
        · intro w'
          go_simp
          with_reducible rfl
        rotate_left
        · exact put_
        refine pure_ (i := 9) (N := some 34) (v := ?_) (a' := ?_) #[true, true, true, true, true, true, true, true, true, true, false, false, false, false] rfl rfl (by kernel_rfl) (fun _ _ _ h => h) (Or.inl ⟨by rfl, ?_⟩) ?_ ?_
        rotate_left
        · intro w'
          go_simp
          with_reducible rfl
        rotate_left
        · exact put_
        refine pure_ (i := 10) (N := some 35) (v := ?_) (a' := ?_) #[true, true, true, true, true, true, true, true, true, true, true, false, false, false] rfl rfl (by kernel_rfl) (fun _ _ _ h => h) (Or.inl ⟨by rfl, ?_⟩) ?_ ?_
        rotate_left
        · intro w'
          go_simp
          with_reducible rfl
        rotate_left
        · exact put_
        refine one_ (i := 11) (N := some 36) #[true, true, true, true, true, true, true, true, true, true, true, true, false, false] rfl rfl (by kernel_rfl) (by decide) (fun K hK => ?_)
        refine goes_ Try.func11 (by kernel_rfl) rfl #[] (by rfl) rfl rfl (by simp only [List.map_toArray, List.map_cons, List.map_nil]) ?_
        with_reducible refine (counterfoillaw15_awake.calls k true _ HA.out).mono ?_
        rintro e wd_ ⟨rfl, hb⟩
        refine ⟨_, rfl, ?_⟩
        have Hbd := Aside0.mk hb
        have HBd := Aside0.mk (below_step HBc.out hb)
        have HCyd := Aside0.mk (Kd.C_below HCyc.out hb)
        have HCsd := Aside0.mk (Kd.C_below HCsc.out hb)
        clear hb HBc HCyc HCsc
        refine hK.out _ _ ⟨(Hbd.out.cell (World.block_lt_of_cell? _ _ (hHeld.1))).trans (hHeld.1), (Hbd.out.cell (World.block_lt_of_cell? _ _ (hHeld.2.1))).trans (hHeld.2.1), (Hbd.out.cell (World.block_lt_of_cell? _ _ (hHeld.2.2.1))).trans (hHeld.2.2.1), (Hbd.out.cell (World.block_lt_of_cell? _ _ (hHeld.2.2.2.1))).trans (hHeld.2.2.2.1), (Hbd.out.cell (World.block_lt_of_cell? _ _ (hHeld.2.2.2.2.1))).trans (hHeld.2.2.2.2.1), (Hbd.out.cell (World.block_lt_of_cell? _ _ (hHeld.2.2.2.2.2.1))).trans (hHeld.2.2.2.2.2.1), (Hbd.out.cell (World.block_lt_of_cell? _ _ (hHeld.2.2.2.2.2.2.1))).trans (hHeld.2.2.2.2.2.2.1), (Hbd.out.cell (World.block_lt_of_cell? _ _ (hHeld.2.2.2.2.2.2.2.1))).trans (hHeld.2.2.2.2.2.2.2.1), (Hbd.out.cell (World.block_lt_of_cell? _ _ (hHeld.2.2.2.2.2.2.2.2.1))).trans (hHeld.2.2.2.2.2.2.2.2.1), (Hbd.out.cell (World.block_lt_of_cell? _ _ (hHeld.2.2.2.2.2.2.2.2.2.1))).trans (hHeld.2.2.2.2.2.2.2.2.2.1), (Hbd.out.cell (World.block_lt_of_cell? _ _ (hHeld.2.2.2.2.2.2.2.2.2.2.1))).trans (hHeld.2.2.2.2.2.2.2.2.2.2.1), (Hbd.out.cell (World.block_lt_of_cell? _ _ (hHeld.2.2.2.2.2.2.2.2.2.2.2.1))).trans (hHeld.2.2.2.2.2.2.2.2.2.2.2.1), (Hbd.out.cell (World.block_lt_of_cell? _ _ (hHeld.2.2.2.2.2.2.2.2.2.2.2.2.1))).trans (hHeld.2.2.2.2.2.2.2.2.2.2.2.2.1), (Hbd.out.cell (World.block_lt_of_cell? _ _ (hHeld.2.2.2.2.2.2.2.2.2.2.2.2.2))).trans (hHeld.2.2.2.2.2.2.2.2.2.2.2.2.2)⟩ (fun hHeld => ?_)
        clear hK K
        refine norm_ (a' := ?_) ?_ ?_
        rotate_left
        · show Act.put _ (some 36) _ = _
          exact put_
        refine pure_ (i := 12) (N := some 37) (v := ?_) (a' := ?_) #[true, true, true, true, true, true, true, true, true, true, true, true, true, false] rfl rfl (by kernel_rfl) (fun _ _ _ h => h) (Or.inl ⟨by rfl, ?_⟩) ?_ ?_
        rotate_left
        · intro w'
          go_simp
          with_reducible rfl
        rotate_left
        · exact put_
        refine pure_ (i := 13) (N := some 4) (v := ?_) (a' := ?_) #[true, true, true, true, true, true, true, true, true, true, true, true, true, true] rfl rfl (by kernel_rfl) (fun _ _ _ h => h) (Or.inl ⟨by rfl, ?_⟩) ?_ ?_
        rotate_left
        · intro w'
          go_simp
          with_reducible rfl
        rotate_left
        · exact put_
        refine done_ (by kernel_rfl) ?_
        go_wp2
        go_ret
        exact ⟨rfl, HBd.out⟩
      · exact absurd (show some false = some true from (if_neg hf).symm.trans h) (by simp)
    | true =>
      have h := H.out
      rw [if_pos rfl] at h
      clear H
      replace h := Option.bind_eq_some_iff.1 h
      obtain ⟨⟨zo, zf, zw, zl, zs, zh, zr, za⟩, hz, h⟩ := h
      replace h := Option.bind_eq_some_iff.1 h
      obtain ⟨e, he, h⟩ := h
      have HZ := Aside0.mk hz
      have HE0 := Aside0.mk (show counterfoilref15_Equal.f k a yo yf yw yl a zo zf zw zl = some e from he)
      clear hz he
      by_cases hf : e = true ∧ ys = zs ∧ yh = zh ∧ yr = zr ∧ ya = za
      · have h' : counterfoillaw15_awake.f k = some true := by rw [← h]; exact (if_pos hf).symm
        have HA := Aside0.mk h'
        obtain ⟨rfl, rfl, rfl, rfl, rfl⟩ := hf
        have HE := HE0
        clear h h' HE0
        have x0 : w5.cell? ⟨w.heap.size, 0, none⟩ = some (.int .i64 a) := (blk_cell BX.out 0).trans rfl
        have x1 : w5.cell? ⟨w.heap.size, 1, none⟩ = some (.int .i64 o) := (blk_cell BX.out 1).trans rfl
        have x2 : w5.cell? ⟨w.heap.size, 2, none⟩ = some (.int .i64 f) := (blk_cell BX.out 2).trans rfl
        have x3 : w5.cell? ⟨w.heap.size, 3, none⟩ = some (.slice A0 l.length c) := (blk_cell BX.out 3).trans rfl
        have x4 : w5.cell? ⟨w.heap.size, 4, none⟩ = some (.int .i64 wt) := (blk_cell BX.out 4).trans rfl
        go_wp2_with fail
        (with_reducible refine (counterfoillaw15_ref.plain a o f wt A0 l.length c _).mono ?_)
        rintro e w6 ⟨rfl, hb⟩
        replace HBw := Aside0.mk (below_step HBw.out hb)
        replace BX := Aside0.mk (blk_below BX.out hb)
        replace BY := Aside0.mk (blk_below BY.out hb)
        replace BC := Aside0.mk (blk_below BC.out hb)
        replace HCyw := Aside0.mk (Kd.C_below HCyw.out hb)
        clear hb x0 x1 x2 x3 x4
        go_wp2_with fail
        (with_reducible refine (counterfoilref15_Take.walk k a o f wt A0 c l p _ _ (Kd.C_below HR0.out HBw.out) HC0.out HZ.out).mono ?_)
        rintro e w7 ⟨v2, rfl, hv, hb⟩
        obtain ⟨A2, c2, rfl, hc2, hC2⟩ := counterfoilref15_Take.Out_open hv (Kd.C_below HR0.out HBw.out) HC0.out hb
        have HCs7 := Aside0.mk hC2
        have HLs := Aside0.mk hc2
        replace HBw := Aside0.mk (below_step HBw.out hb)
        replace BX := Aside0.mk (blk_below BX.out hb)
        replace BY := Aside0.mk (blk_below BY.out hb)
        replace BC := Aside0.mk (blk_below BC.out hb)
        replace HCyw := Aside0.mk (Kd.C_below HCyw.out hb)
        clear hv hb hc2 hC2 HZ
        go_upto_region 7 with (fail)
        have W3Z := Aside0.mk (below_alloc (Below.refl w7.heap.size w7) (.cells #[.int .i64 a, .int .i64 zo, .int .i64 zf, .int .i64 zw, .slice A2 zl.length c2] 33 (0, 0)))
        replace HBw := Aside0.mk (below_step HBw.out W3Z.out)
        replace BX := Aside0.mk (blk_below BX.out W3Z.out)
        replace BY := Aside0.mk (blk_below BY.out W3Z.out)
        replace BC := Aside0.mk (blk_below BC.out W3Z.out)
        replace HCyw := Aside0.mk (Kd.C_below HCyw.out W3Z.out)
        have HCsw := Aside0.mk (Kd.C_below HCs7.out W3Z.out)
        have BZ := Aside0.mk (blk_new w7 (.cells #[.int .i64 a, .int .i64 zo, .int .i64 zf, .int .i64 zw, .slice A2 zl.length c2] 33 (0, 0)))
        clear W3Z HCs7 BX
        generalize w7.alloc (.cells #[.int .i64 a, .int .i64 zo, .int .i64 zf, .int .i64 zw, .slice A2 zl.length c2] 33 (0, 0)) = W8 at HBw HCyw BY BC HCsw BZ ⊢
        generalize w7.heap.size = gz at BZ ⊢
        go_upto_region 7 with (fail)
        replace BY := Aside0.mk (blk_drew BY.out)
        replace BZ := Aside0.mk (blk_drew BZ.out)
        replace BC := Aside0.mk (blk_drew BC.out)
        replace HBw := Aside0.mk (below_drew1 HBw.out)
        replace HCyw := Aside0.mk (Kd.C_drew HCyw.out)
        replace HCsw := Aside0.mk (Kd.C_drew HCsw.out)
        refine start_ (n := 17) (S := fun w' => w'.cell? ⟨gy, 0, none⟩ = some (.int .i64 a) ∧ w'.cell? ⟨gy, 1, none⟩ = some (.int .i64 yo) ∧ w'.cell? ⟨gy, 2, none⟩ = some (.int .i64 yf) ∧ w'.cell? ⟨gy, 3, none⟩ = some (.slice A1 yl.length c1) ∧ w'.cell? ⟨gy, 4, none⟩ = some (.int .i64 yw) ∧ w'.cell? ⟨gz, 0, none⟩ = some (.int .i64 a) ∧ w'.cell? ⟨gz, 1, none⟩ = some (.int .i64 zo) ∧ w'.cell? ⟨gz, 2, none⟩ = some (.int .i64 zf) ∧ w'.cell? ⟨gz, 3, none⟩ = some (.int .i64 zw) ∧ w'.cell? ⟨gz, 4, none⟩ = some (.slice A2 zl.length c2) ∧ w'.cell? ⟨gc, 0, none⟩ = some (.string ys) ∧ w'.cell? ⟨gc, 1, none⟩ = some (.bool yh) ∧ w'.cell? ⟨gc, 2, none⟩ = some (.string yr) ∧ w'.cell? ⟨gc, 3, none⟩ = some (.bool ya)) (ds := []) #[false, false, false, false, false, false, false, false, false, false, false, false, false, false, false, false, false] (by kernel_rfl) rfl rfl ⟨(blk_cell BY.out 0).trans rfl, (blk_cell BY.out 1).trans rfl, (blk_cell BY.out 2).trans rfl, (blk_cell BY.out 3).trans rfl, (blk_cell BY.out 4).trans rfl, (blk_cell BZ.out 0).trans rfl, (blk_cell BZ.out 1).trans rfl, (blk_cell BZ.out 2).trans rfl, (blk_cell BZ.out 3).trans rfl, (blk_cell BZ.out 4).trans rfl, (blk_cell BC.out 0).trans rfl, (blk_cell BC.out 1).trans rfl, (blk_cell BC.out 2).trans rfl, (blk_cell BC.out 3).trans rfl⟩ (fun hHeld => ?_)
        generalize World.drew W8 = V at HBw HCyw HCsw hHeld ⊢
        refine take_ (i := 0) (N := some 48) (v := ?_) (a' := ?_) #[true, false, false, false, false, false, false, false, false, false, false, false, false, false, false, false, false] rfl rfl (by kernel_rfl) (fun _ _ _ h => h) (Or.inl ⟨by rfl, ?_⟩) hHeld ?_ ?_
        rotate_left
        · rintro w' ⟨s0, s1, s2, s3, s4, s5, s6, s7, s8, s9, s10, s11, s12, s13⟩
          go_simp
          with_reducible rfl
        rotate_left
        · exact put_
        refine take_ (i := 2) (N := some 50) (v := ?_) (a' := ?_) #[true, false, true, false, false, false, false, false, false, false, false, false, false, false, false, false, false] rfl rfl (by kernel_rfl) (fun _ _ _ h => h) (Or.inl ⟨by rfl, ?_⟩) hHeld ?_ ?_
        rotate_left
        · rintro w' ⟨s0, s1, s2, s3, s4, s5, s6, s7, s8, s9, s10, s11, s12, s13⟩
          go_simp
          with_reducible rfl
        rotate_left
        · exact put_
        refine one_ (i := 1) (N := some 49) #[true, true, true, false, false, false, false, false, false, false, false, false, false, false, false, false, false] rfl rfl (by kernel_rfl) (by decide) (fun K hK => ?_)
        refine goes_ Try.func16 (by kernel_rfl) rfl #[.agg #[.int .i64 a, .int .i64 yo, .int .i64 yf, .slice A1 yl.length c1, .int .i64 yw]] (by rfl) rfl rfl (by simp only [List.map_toArray, List.map_cons, List.map_nil]; rfl) ?_
        with_reducible refine (counterfoillaw15_ref.plain a yo yf yw A1 yl.length c1 _).mono ?_
        rintro e wa_ ⟨rfl, hb⟩
        refine ⟨_, rfl, ?_⟩
        have Hba := Aside0.mk hb
        have HBa := Aside0.mk (below_step HBw.out hb)
        have HCya := Aside0.mk (Kd.C_below HCyw.out hb)
        have HCsa := Aside0.mk (Kd.C_below HCsw.out hb)
        clear hb HBw HCyw HCsw
        refine hK.out _ _ ⟨(Hba.out.cell (World.block_lt_of_cell? _ _ (hHeld.1))).trans (hHeld.1), (Hba.out.cell (World.block_lt_of_cell? _ _ (hHeld.2.1))).trans (hHeld.2.1), (Hba.out.cell (World.block_lt_of_cell? _ _ (hHeld.2.2.1))).trans (hHeld.2.2.1), (Hba.out.cell (World.block_lt_of_cell? _ _ (hHeld.2.2.2.1))).trans (hHeld.2.2.2.1), (Hba.out.cell (World.block_lt_of_cell? _ _ (hHeld.2.2.2.2.1))).trans (hHeld.2.2.2.2.1), (Hba.out.cell (World.block_lt_of_cell? _ _ (hHeld.2.2.2.2.2.1))).trans (hHeld.2.2.2.2.2.1), (Hba.out.cell (World.block_lt_of_cell? _ _ (hHeld.2.2.2.2.2.2.1))).trans (hHeld.2.2.2.2.2.2.1), (Hba.out.cell (World.block_lt_of_cell? _ _ (hHeld.2.2.2.2.2.2.2.1))).trans (hHeld.2.2.2.2.2.2.2.1), (Hba.out.cell (World.block_lt_of_cell? _ _ (hHeld.2.2.2.2.2.2.2.2.1))).trans (hHeld.2.2.2.2.2.2.2.2.1), (Hba.out.cell (World.block_lt_of_cell? _ _ (hHeld.2.2.2.2.2.2.2.2.2.1))).trans (hHeld.2.2.2.2.2.2.2.2.2.1), (Hba.out.cell (World.block_lt_of_cell? _ _ (hHeld.2.2.2.2.2.2.2.2.2.2.1))).trans (hHeld.2.2.2.2.2.2.2.2.2.2.1), (Hba.out.cell (World.block_lt_of_cell? _ _ (hHeld.2.2.2.2.2.2.2.2.2.2.2.1))).trans (hHeld.2.2.2.2.2.2.2.2.2.2.2.1), (Hba.out.cell (World.block_lt_of_cell? _ _ (hHeld.2.2.2.2.2.2.2.2.2.2.2.2.1))).trans (hHeld.2.2.2.2.2.2.2.2.2.2.2.2.1), (Hba.out.cell (World.block_lt_of_cell? _ _ (hHeld.2.2.2.2.2.2.2.2.2.2.2.2.2))).trans (hHeld.2.2.2.2.2.2.2.2.2.2.2.2.2)⟩ (fun hHeld => ?_)
        clear hK K
        refine norm_ (a' := ?_) ?_ ?_
        rotate_left
        · show Act.put _ (some 49) _ = _
          exact put_
        refine one_ (i := 3) (N := some 51) #[true, true, true, true, false, false, false, false, false, false, false, false, false, false, false, false, false] rfl rfl (by kernel_rfl) (by decide) (fun K hK => ?_)
        refine goes_ Try.func17 (by kernel_rfl) rfl #[.agg #[.int .i64 a, .int .i64 yo, .int .i64 yf, .int .i64 yw, .slice A1 yl.length c1], .agg #[.int .i64 a, .int .i64 zo, .int .i64 zf, .int .i64 zw, .slice A2 zl.length c2]] (by rfl) rfl rfl (by simp only [List.map_toArray, List.map_cons, List.map_nil]; rfl) ?_
        with_reducible refine (counterfoilref15_Equal.calls k a yo yf yw A1 c1 yl a zo zf zw A2 c2 zl true _ HCya.out HLy.out HCsa.out HLs.out HE.out).mono ?_
        rintro e wb_ ⟨rfl, hb⟩
        refine ⟨_, rfl, ?_⟩
        have Hbb := Aside0.mk hb
        have HBb := Aside0.mk (below_step HBa.out hb)
        have HCyb := Aside0.mk (Kd.C_below HCya.out hb)
        have HCsb := Aside0.mk (Kd.C_below HCsa.out hb)
        clear hb HBa HCya HCsa
        refine hK.out _ _ ⟨(Hbb.out.cell (World.block_lt_of_cell? _ _ (hHeld.1))).trans (hHeld.1), (Hbb.out.cell (World.block_lt_of_cell? _ _ (hHeld.2.1))).trans (hHeld.2.1), (Hbb.out.cell (World.block_lt_of_cell? _ _ (hHeld.2.2.1))).trans (hHeld.2.2.1), (Hbb.out.cell (World.block_lt_of_cell? _ _ (hHeld.2.2.2.1))).trans (hHeld.2.2.2.1), (Hbb.out.cell (World.block_lt_of_cell? _ _ (hHeld.2.2.2.2.1))).trans (hHeld.2.2.2.2.1), (Hbb.out.cell (World.block_lt_of_cell? _ _ (hHeld.2.2.2.2.2.1))).trans (hHeld.2.2.2.2.2.1), (Hbb.out.cell (World.block_lt_of_cell? _ _ (hHeld.2.2.2.2.2.2.1))).trans (hHeld.2.2.2.2.2.2.1), (Hbb.out.cell (World.block_lt_of_cell? _ _ (hHeld.2.2.2.2.2.2.2.1))).trans (hHeld.2.2.2.2.2.2.2.1), (Hbb.out.cell (World.block_lt_of_cell? _ _ (hHeld.2.2.2.2.2.2.2.2.1))).trans (hHeld.2.2.2.2.2.2.2.2.1), (Hbb.out.cell (World.block_lt_of_cell? _ _ (hHeld.2.2.2.2.2.2.2.2.2.1))).trans (hHeld.2.2.2.2.2.2.2.2.2.1), (Hbb.out.cell (World.block_lt_of_cell? _ _ (hHeld.2.2.2.2.2.2.2.2.2.2.1))).trans (hHeld.2.2.2.2.2.2.2.2.2.2.1), (Hbb.out.cell (World.block_lt_of_cell? _ _ (hHeld.2.2.2.2.2.2.2.2.2.2.2.1))).trans (hHeld.2.2.2.2.2.2.2.2.2.2.2.1), (Hbb.out.cell (World.block_lt_of_cell? _ _ (hHeld.2.2.2.2.2.2.2.2.2.2.2.2.1))).trans (hHeld.2.2.2.2.2.2.2.2.2.2.2.2.1), (Hbb.out.cell (World.block_lt_of_cell? _ _ (hHeld.2.2.2.2.2.2.2.2.2.2.2.2.2))).trans (hHeld.2.2.2.2.2.2.2.2.2.2.2.2.2)⟩ (fun hHeld => ?_)
        clear hK K
        refine norm_ (a' := ?_) ?_ ?_
        rotate_left
        · show Act.put _ (some 51) _ = _
          exact put_
        refine pure_ (i := 4) (N := some 52) (v := ?_) (a' := ?_) #[true, true, true, true, true, false, false, false, false, false, false, false, false, false, false, false, false] rfl rfl (by kernel_rfl) (fun _ _ _ h => h) (Or.inl ⟨by rfl, ?_⟩) ?_ ?_
        rotate_left
        · intro w'
          go_simp
          with_reducible rfl
        rotate_left
        · exact put_
        refine pure_ (i := 6) (N := some 54) (v := ?_) (a' := ?_) #[true, true, true, true, true, false, true, false, false, false, false, false, false, false, false, false, false] rfl rfl (by kernel_rfl) (fun _ _ _ h => h) (Or.inl ⟨by rfl, ?_⟩) ?_ ?_
        rotate_left
        · intro w'
          go_simp
          with_reducible rfl
        rotate_left
        · exact put_
        refine pure_ (i := 7) (N := some 55) (v := ?_) (a' := ?_) #[true, true, true, true, true, false, true, true, false, false, false, false, false, false, false, false, false] rfl rfl (by kernel_rfl) (fun _ _ _ h => h) (Or.inl ⟨by rfl, ?_⟩) ?_ ?_
        rotate_left
        · intro w'
          go_simp
          with_reducible rfl
        rotate_left
        · exact put_
        refine pure_ (i := 8) (N := some 56) (v := ?_) (a' := ?_) #[true, true, true, true, true, false, true, true, true, false, false, false, false, false, false, false, false] rfl rfl (by kernel_rfl) (fun _ _ _ h => h) (Or.inl ⟨by rfl, ?_⟩) ?_ ?_
        rotate_left
        · intro w'
          go_simp
          with_reducible rfl
        rotate_left
        · exact put_
        refine pure_ (i := 9) (N := some 57) (v := ?_) (a' := ?_) #[true, true, true, true, true, false, true, true, true, true, false, false, false, false, false, false, false] rfl rfl (by kernel_rfl) (fun _ _ _ h => h) (Or.inl ⟨by rfl, ?_⟩) ?_ ?_
        rotate_left
        · intro w'
          go_simp
          with_reducible rfl
        rotate_left
        · exact put_
        refine pure_ (i := 10) (N := some 58) (v := ?_) (a' := ?_) #[true, true, true, true, true, false, true, true, true, true, true, false, false, false, false, false, false] rfl rfl (by kernel_rfl) (fun _ _ _ h => h) (Or.inl ⟨by rfl, ?_⟩) ?_ ?_
        rotate_left
        · intro w'
          go_simp
          with_reducible rfl
        rotate_left
        · exact put_
        refine take_ (i := 5) (N := some 53) (v := ?_) (a' := ?_) #[true, true, true, true, true, true, true, true, true, true, true, false, false, false, false, false, false] rfl rfl (by kernel_rfl) (fun _ _ _ h => h) (Or.inl ⟨by rfl, ?_⟩) hHeld ?_ ?_
        rotate_left
        · rintro w' ⟨s0, s1, s2, s3, s4, s5, s6, s7, s8, s9, s10, s11, s12, s13⟩
          go_simp
          with_reducible rfl
        rotate_left
        · exact put_
        refine pure_ (i := 11) (N := some 59) (v := ?_) (a' := ?_) #[true, true, true, true, true, true, true, true, true, true, true, true, false, false, false, false, false] rfl rfl (by kernel_rfl) (fun _ _ _ h => h) (Or.inl ⟨by rfl, ?_⟩) ?_ ?_
        rotate_left
        · intro w'
          go_simp
          with_reducible rfl
        rotate_left
        · exact put_
        refine pure_ (i := 12) (N := some 60) (v := ?_) (a' := ?_) #[true, true, true, true, true, true, true, true, true, true, true, true, true, false, false, false, false] rfl rfl (by kernel_rfl) (fun _ _ _ h => h) (Or.inl ⟨by rfl, ?_⟩) ?_ ?_
        rotate_left
        · intro w'
          go_simp
          with_reducible rfl
        rotate_left
        · exact put_
        refine pure_ (i := 13) (N := some 61) (v := ?_) (a' := ?_) #[true, true, true, true, true, true, true, true, true, true, true, true, true, true, false, false, false] rfl rfl (by kernel_rfl) (fun _ _ _ h => h) (Or.inl ⟨by rfl, ?_⟩) ?_ ?_
        rotate_left
        · intro w'
          go_simp
          with_reducible rfl
        rotate_left
        · exact put_
        refine one_ (i := 14) (N := some 62) #[true, true, true, true, true, true, true, true, true, true, true, true, true, true, true, false, false] rfl rfl (by kernel_rfl) (by decide) (fun K hK => ?_)
        refine goes_ Try.func11 (by kernel_rfl) rfl #[] (by rfl) rfl rfl (by simp only [List.map_toArray, List.map_cons, List.map_nil]) ?_
        with_reducible refine (counterfoillaw15_awake.calls k true _ HA.out).mono ?_
        rintro e wc_ ⟨rfl, hb⟩
        refine ⟨_, rfl, ?_⟩
        have Hbc := Aside0.mk hb
        have HBc := Aside0.mk (below_step HBb.out hb)
        have HCyc := Aside0.mk (Kd.C_below HCyb.out hb)
        have HCsc := Aside0.mk (Kd.C_below HCsb.out hb)
        clear hb HBb HCyb HCsb
        refine hK.out _ _ ⟨(Hbc.out.cell (World.block_lt_of_cell? _ _ (hHeld.1))).trans (hHeld.1), (Hbc.out.cell (World.block_lt_of_cell? _ _ (hHeld.2.1))).trans (hHeld.2.1), (Hbc.out.cell (World.block_lt_of_cell? _ _ (hHeld.2.2.1))).trans (hHeld.2.2.1), (Hbc.out.cell (World.block_lt_of_cell? _ _ (hHeld.2.2.2.1))).trans (hHeld.2.2.2.1), (Hbc.out.cell (World.block_lt_of_cell? _ _ (hHeld.2.2.2.2.1))).trans (hHeld.2.2.2.2.1), (Hbc.out.cell (World.block_lt_of_cell? _ _ (hHeld.2.2.2.2.2.1))).trans (hHeld.2.2.2.2.2.1), (Hbc.out.cell (World.block_lt_of_cell? _ _ (hHeld.2.2.2.2.2.2.1))).trans (hHeld.2.2.2.2.2.2.1), (Hbc.out.cell (World.block_lt_of_cell? _ _ (hHeld.2.2.2.2.2.2.2.1))).trans (hHeld.2.2.2.2.2.2.2.1), (Hbc.out.cell (World.block_lt_of_cell? _ _ (hHeld.2.2.2.2.2.2.2.2.1))).trans (hHeld.2.2.2.2.2.2.2.2.1), (Hbc.out.cell (World.block_lt_of_cell? _ _ (hHeld.2.2.2.2.2.2.2.2.2.1))).trans (hHeld.2.2.2.2.2.2.2.2.2.1), (Hbc.out.cell (World.block_lt_of_cell? _ _ (hHeld.2.2.2.2.2.2.2.2.2.2.1))).trans (hHeld.2.2.2.2.2.2.2.2.2.2.1), (Hbc.out.cell (World.block_lt_of_cell? _ _ (hHeld.2.2.2.2.2.2.2.2.2.2.2.1))).trans (hHeld.2.2.2.2.2.2.2.2.2.2.2.1), (Hbc.out.cell (World.block_lt_of_cell? _ _ (hHeld.2.2.2.2.2.2.2.2.2.2.2.2.1))).trans (hHeld.2.2.2.2.2.2.2.2.2.2.2.2.1), (Hbc.out.cell (World.block_lt_of_cell? _ _ (hHeld.2.2.2.2.2.2.2.2.2.2.2.2.2))).trans (hHeld.2.2.2.2.2.2.2.2.2.2.2.2.2)⟩ (fun hHeld => ?_)
        clear hK K
        refine norm_ (a' := ?_) ?_ ?_
        rotate_left
        · show Act.put _ (some 62) _ = _
          exact put_
        refine pure_ (i := 15) (N := some 63) (v := ?_) (a' := ?_) #[true, true, true, true, true, true, true, true, true, true, true, true, true, true, true, true, false] rfl rfl (by kernel_rfl) (fun _ _ _ h => h) (Or.inl ⟨by rfl, ?_⟩) ?_ ?_
        rotate_left
        · intro w'
          go_simp
          with_reducible rfl
        rotate_left
        · exact put_
        refine pure_ (i := 16) (N := some 4) (v := ?_) (a' := ?_) #[true, true, true, true, true, true, true, true, true, true, true, true, true, true, true, true, true] rfl rfl (by kernel_rfl) (fun _ _ _ h => h) (Or.inl ⟨by rfl, ?_⟩) ?_ ?_
        rotate_left
        · intro w'
          go_simp
          with_reducible rfl
        rotate_left
        · exact put_
        refine done_ (by kernel_rfl) ?_
        go_wp2
        go_ret
        exact ⟨rfl, HBc.out⟩
      · exact absurd (show some false = some true from (if_neg hf).symm.trans h) (by simp)
end Go.Proofs.Ytgfmdfgibkkfaaa.P
