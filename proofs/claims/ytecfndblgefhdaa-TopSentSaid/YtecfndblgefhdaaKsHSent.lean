import Derived.Test.YtecfndblgefhdaaKsSentP
import Derived.Test.YtecfndblgefhdaaKsStored
set_option linter.unusedVariables false
set_option linter.unusedSimpArgs false
namespace Go.Proofs.Ytecfndblgefhdaa.Law
open Go.RowKit Go.Proofs.Ytecfndblgefhdaa.R Go.Proofs.Ytecfndblgefhdaa.Sort Go.Proofs.YtecfndblgefhdaaW.PrintWords Go.Proofs.YtecfndblgefhdaaW.PrintLast Go.Proofs.YtecfndblgefhdaaW.PrintMore
attribute [local go_sem] max2_int min2_int max_two min_two max_three min_three max_four min_four
structure SW (w0 W : World) (gb gq : Nat) (a b : Int) (c : Bool) (v13 : Value) (S : List (List Vo)) (v14 : Value) (L : List Vo) (sets : List Se) (opn : List Wr) (fr tq : Int) (B0 B1 : Option Addr) (d0 d1 : Nat) : Prop where
 bb : W.heap[gb]? = some (.cells #[.int .i64 a, .int .i64 b, .bool c] 61 (0, 0))
 bq : W.heap[gq]? = some (.cells #[.slice B0 sets.length d0, .slice B1 opn.length d1, .int .i64 fr, .int .i64 tq] 68 (0, 0))
 l0 : sets.length ≤ d0
 f0 : Kd.F k51 W (fun k => k ≠ gq ∧ some k ≠ v13.ownBlock) B0 sets.length sets
 l1 : opn.length ≤ d1
 f1 : Kd.F k120 W (fun k => k ≠ gq ∧ some k ≠ v13.ownBlock) B1 opn.length opn
 ns : Kd.N (Kd.slice 137 k137) 59 W w0.heap.size (fun k => k ≠ gq ∧ k ≠ gb) v13 S
 th : ∃ A n, v14 = .slice A L.length n ∧ L.length ≤ n ∧ Kd.F k137 W (fun k => k ≠ gq ∧ some k ≠ v13.ownBlock) A L.length L
 bl : Below w0.heap.size w0 W
 ge : w0.heap.size ≤ gq ∧ w0.heap.size ≤ gb ∧ gq ≠ gb
section
variable {w0 W W1 : World} {gb gq : Nat} {a b : Int} {c : Bool} {v13 v14 : Value} {S : List (List Vo)} {L : List Vo} {sets : List Se} {opn : List Wr} {fr tq : Int} {B0 B1 : Option Addr} {d0 d1 : Nat}
theorem SW.below (h : SW w0 W gb gq a b c v13 S v14 L sets opn fr tq B0 B1 d0 d1) (hb : Below W.heap.size W W1) : SW w0 W1 gb gq a b c v13 S v14 L sets opn fr tq B0 B1 d0 d1 := by
 obtain ⟨A, n, e, hn, hF⟩ := h.th
 exact ⟨blk_below h.bb hb, blk_below h.bq hb, h.l0, Kd.F_below h.f0 hb, h.l1, Kd.F_below h.f1 hb, Kd.N_below h.ns hb, ⟨A, n, e, hn, Kd.F_below hF hb⟩, below_step h.bl hb, h.ge⟩
theorem SW.lt (h : SW w0 W gb gq a b c v13 S v14 L sets opn fr tq B0 B1 d0 d1) : gq < W.heap.size ∧ gb < W.heap.size ∧ ∀ k, v13.ownBlock = some k → k < W.heap.size := ⟨blk_lt h.bq, blk_lt h.bb, Kd.N_lt h.ns⟩
theorem F_put4 {α : Type} {d : Kd α} {ok : Nat → Prop} {A : Option Addr} {n : Nat} {xs : List α} {u0 u1 u2 u3 : Value} (h : Kd.F d W ok A n xs) (hok : ∀ k, ok k → k ≠ gq) : Kd.F d (World.setCell (World.setCell (World.setCell (World.setCell W ⟨gq, 0, none⟩ u0) ⟨gq, 1, none⟩ u1) ⟨gq, 2, none⟩ u2) ⟨gq, 3, none⟩ u3) ok A n xs :=
 Kd.F_far (p := ⟨gq, 3, none⟩) (Kd.F_far (p := ⟨gq, 2, none⟩) (Kd.F_far (p := ⟨gq, 1, none⟩) (Kd.F_far (p := ⟨gq, 0, none⟩) h hok _) hok _) hok _) hok _
theorem SW.store (h : SW w0 W1 gb gq a b c v13 S v14 L sets opn fr tq B0 B1 d0 d1) (hq : gq < W.heap.size) (hs : ∀ k, v13.ownBlock = some k → k < W.heap.size) {v0 v1 : Value} {sets' : List Se} {opn' : List Wr} (fr' tq' : Int) (r0 : Rn k51 W W1 v0 sets') (r1 : Rn k120 W W1 v1 opn') :
  ∃ E0 E1 e0 e1, v0 = .slice E0 sets'.length e0 ∧ v1 = .slice E1 opn'.length e1 ∧ SW w0 (World.setCell (World.setCell (World.setCell (World.setCell W1 ⟨gq, 0, none⟩ v0) ⟨gq, 1, none⟩ v1) ⟨gq, 2, none⟩ (.int .i64 fr')) ⟨gq, 3, none⟩ (.int .i64 tq')) gb gq a b c v13 S v14 L sets' opn' fr' tq' E0 E1 e0 e1 := by
 obtain ⟨E0, e0, rfl, m0, F0⟩ := r0
 obtain ⟨E1, e1, rfl, m1, F1⟩ := r1
 obtain ⟨A, n, e, hn, hF⟩ := h.th
 have hok : ∀ k, W.heap.size ≤ k → k ≠ gq ∧ some k ≠ v13.ownBlock := fun k hk => ⟨z7_, fun h2 => by have := hs k h2.symm; omega⟩
 have F0 := Kd.F_mono (ok' := fun k => k ≠ gq ∧ some k ≠ v13.ownBlock) F0 hok
 have F1 := Kd.F_mono (ok' := fun k => k ≠ gq ∧ some k ≠ v13.ownBlock) F1 hok
 have hne : gb ≠ gq := fun h2 => h.ge.2.2 h2.symm
 refine ⟨E0, E1, e0, e1, rfl, rfl, ?_, ?_, m0, F_put4 F0 (fun k hk => hk.1), m1, F_put4 F1 (fun k hk => hk.1), ?_, ⟨A, n, e, hn, F_put4 hF (fun k hk => hk.1)⟩, ?_, h.ge⟩
 ·exact blk_far (blk_far (blk_far (blk_far h.bb (p := ⟨gq, 0, none⟩) hne _) (p := ⟨gq, 1, none⟩) hne _) (p := ⟨gq, 2, none⟩) hne _) (p := ⟨gq, 3, none⟩) hne _
 ·exact blk_put (blk_put (blk_put (blk_put h.bq 0 _ rfl) 1 _ rfl) 2 _ rfl) 3 _ rfl
 ·exact Kd.N_far (p := ⟨gq, 3, none⟩) (Kd.N_far (p := ⟨gq, 2, none⟩) (Kd.N_far (p := ⟨gq, 1, none⟩) (Kd.N_far (p := ⟨gq, 0, none⟩) h.ns (fun k hk => hk.1) _) (fun k hk => hk.1) _) (fun k hk => hk.1) _) (fun k hk => hk.1) _
 ·exact below_set (below_set (below_set (below_set h.bl h.ge.1) h.ge.1) h.ge.1) h.ge.1
theorem SW.there (h : SW w0 W1 gb gq a b c v13 S v14 L sets opn fr tq B0 B1 d0 d1) (hq : gq < W.heap.size) (hs : ∀ k, v13.ownBlock = some k → k < W.heap.size) {v : Value} {L' : List Vo} (r : Rn k137 W W1 v L') : SW w0 W1 gb gq a b c v13 S v L' sets opn fr tq B0 B1 d0 d1 := by
 obtain ⟨E0, e0, rfl, m0, F0⟩ := r
 exact { h with th := ⟨E0, e0, rfl, m0, Kd.F_mono F0 (fun k hk => ⟨z7_, fun h2 => by have := hs k h2.symm; omega⟩)⟩ }
theorem SW.append (h : SW w0 W gb gq a b c v13 S v14 L sets opn fr tq B0 B1 d0 d1) {v : Value} {S' : List (List Vo)} (hN : Kd.N (Kd.slice 137 k137) 59 W1 w0.heap.size (fun k => k ≠ gq ∧ k ≠ gb) v S') (hb : Below w0.heap.size w0 W1) (hg : W.grownBy W1 v13.ownBlock) (hat : v.ownBlock = v13.ownBlock ∨ ∃ b, v.ownBlock = some b ∧ W.heap.size ≤ b) : SW w0 W1 gb gq a b c v S' v14 L sets opn fr tq B0 B1 d0 d1 := by
 obtain ⟨A, n, e, hn, hF⟩ := h.th
 exact ⟨blk_grown h.bb hg (Kd.N_away h.ns (fun k hk => hk.2)), blk_grown h.bq hg (Kd.N_away h.ns (fun k hk => hk.1)), h.l0, Kd.F_after h.f0 hg hat, h.l1, Kd.F_after h.f1 hg hat, hN, ⟨A, n, e, hn, Kd.F_after hF hg hat⟩, hb, h.ge⟩
end
def Sent (w0 W : World) (gb gq : Nat) (vs : List Vo) (a b : Int) (c : Bool) (j : Nat) (v13 v14 : Value) (at_ : Int) : Prop :=
 ∃ S sets opn fr T B0 B1 d0 d1, SW w0 W gb gq a b c v13 S v14 (sAt S at_) sets opn fr ((T : Nat) : Int) B0 B1 d0 d1 ∧ SInv vs a b j S sets opn fr (T : Int) ∧ at_ = tl sets fr
theorem FK_slice {α : Type} {d : Kd α} {e : Nat} {W : World} {ok : Nat → Prop} {A : Option Addr} {c : Nat} {xs : List α} (h : Kd.F d W ok A xs.length xs) (hc : xs.length ≤ c) : Kd.FK (Kd.slice e d) W ok xs [.slice A xs.length c] := fun W' hW => ⟨A, c, rfl, hc, h W' hW⟩
theorem FK_slice_open {α : Type} {d : Kd α} {e : Nat} {W : World} {ok : Nat → Prop} {xs : List α} {cs : List Value} (h : Kd.FK (Kd.slice e d) W ok xs cs) : ∃ A c, cs = [.slice A xs.length c] ∧ xs.length ≤ c ∧ Kd.F d W ok A xs.length xs := by
 obtain ⟨A, c, e1, hc, _⟩ := h W (fun _ _ _ => rfl)
 refine ⟨A, c, e1, hc, fun W' hW => ?_⟩
 obtain ⟨A', c', e2, _, h2⟩ := h W' hW
 rw [e1] at e2
 injection e2 with e2
 injection e2 with e3 e4 e5
 subst e3
 exact h2
theorem N_new {α : Type} (d : Kd α) {W : World} {base e : Nat} {xs : List α} {inner : List Value} {ok okp : Nat → Prop} (hrep : Reps (Kd.FK d W okp) d.sz xs inner) (hok : ∀ k, okp k → ok k) (hfresh : ok W.heap.size) (hbase : base ≤ W.heap.size) (hm : xs.length ≤ 9223372036854775807) :
  Kd.N d e (W.alloc (.cells inner.toArray e (0, 0))) base ok (.slice (some ⟨W.heap.size, 0, none⟩) xs.length xs.length) xs := by
 have hl := Kd.chunks_length d.sz xs.length inner
 refine Kd.N_made (W := W) (okp := okp) (rows := Kd.chunks d.sz xs.length inner) ⟨fun k hk => by simpa [Value.ownBlock] using hk.symm, inner, ?_, Kd.reps_raw (hrep.imp_ (fun p c hp => hp)) (fun x c hp => ⟨d.K_len (Kd.FK_now hp), d.K_one (Kd.FK_now hp)⟩)⟩ (World.grownBy_alloc W _ none) ⟨W.heap.size, z151_, Nat.le_refl _⟩ hl (fun j x c hx hc => by rw [Kd.chunks_get hc]; exact hrep.2 j x hx) hok hfresh
 rw [hl]
 show World.ownsRow _ base e d.sz _ _ inner
 have h2 := World.ownsRow_lit (base := base) (e := e) (size := d.sz) W inner.toArray xs.length hbase (by simpa [maxLen] using hm) (by simpa using hrep.1)
 simpa using h2
theorem infoVols : (Try.prog.info? 59).map (fun i => (i.zero, i.size, i.bytes)) = some (some (.slice none 0 0), 1, 24) := by kernel_rfl
theorem apply_any {A0 : Option Addr} {c0 : Nat} {vs : List Vo} {A1 : Option Addr} {c1 : Nat} {ws : List Wr} {w : World} (hr0 : Kd.C k137 w A0 vs.length vs) (hc0 : vs.length ≤ c0) (hr1 : Kd.C k120 w A1 ws.length ws) (hc1 : ws.length ≤ c1) (hv : right vs = true) :
  Calls Try.prog 16 #[.slice A0 vs.length c0, .slice A1 ws.length c1] w fun e w' => ∃ (A : Option Addr) (m c : Nat) (n : Int), e = .returned (.tuple #[.slice A m c, .int .i64 n]) ∧ Aside0 (n = 0 ∧ okWs vs ws ∧ Rn k137 w w' (.slice A m c) (app vs ws) ∨ n ≠ 0 ∧ ¬ okWs vs ws) ∧ Below w.heap.size w w' := by
 by_cases ho : okWs vs ws
 ·refine (apply_sem hr0 hc0 hr1 hc1 hv ho).mono ?_
  rintro e w' ⟨v, rfl, hR, hb⟩
  obtain ⟨A, c, rfl, h1, h2⟩ := hR
  exact ⟨A, _, c, 0, rfl, ⟨.inl ⟨rfl, ho, A, c, rfl, h1, h2⟩⟩, hb⟩
 ·refine (apply_sem_bad hr0 hc0 hr1 hc1 hv ho).mono ?_
  rintro e w' ⟨A, c, n, rfl, hn, hb⟩
  exact ⟨A, 0, c, n, rfl, ⟨.inr ⟨hn, ho⟩⟩, hb⟩
set_option maxHeartbeats 8000000 in
set_option maxRecDepth 100000 in
theorem sent.calls (A0 : Option Addr) (c0 : Nat) (vs : List Vo) (a b : Int) (c : Bool) (A2 : Option Addr) (c2 : Nat) (l : List (List Wr)) (A3 : Option Addr) (c3 : Nat) (cu : List Bool) (A4 : Option Addr) (c4 : Nat) (ta : List Bool) (w : World) (hr0 : Kd.C k137 w A0 vs.length vs) (hc0 : vs.length ≤ c0) (hr2 : Kd.C (Kd.slice 120 k120) w A2 l.length l) (hc2 : l.length ≤ c2) (hr3 : Kd.C Kd.bool w A3 cu.length cu) (hc3 : cu.length ≤ c3) (hr4 : Kd.C Kd.bool w A4 ta.length ta) (hc4 : ta.length ≤ c4) :
  Calls Try.prog 4 #[.slice A0 vs.length c0, .agg #[.int .i64 a, .int .i64 b, .bool c], .slice A2 l.length c2, .slice A3 cu.length c3, .slice A4 ta.length c4] w fun e w' => e = .returned (.bool true) ∧ Below w.heap.size w w' := by
 have HR0 := a0_ hr0
 have HC0 := a0_ hc0
 have HR2 := a0_ hr2
 have HC2 := a0_ hc2
 have HR3 := a0_ hr3
 have HR4 := a0_ hr4
 have HB := a0_ (Below.refl w.heap.size w)
 clear hr0 hc0 hr2 hc2 hr3 hr4 hc3 hc4
 have eg0 : ∀ args w, (callFunc 12 args).run Try.prog w = .ok (.enter 12 args) w := enters_of Try.func12 z6_ rfl
 have eg1 : ∀ args w, (callFunc 14 args).run Try.prog w = .ok (.enter 14 args) w := enters_of Try.func14 z6_ rfl
 have eg2 : ∀ args w, (callFunc 13 args).run Try.prog w = .ok (.enter 13 args) w := enters_of Try.func13 z6_ rfl
 have eg3 : ∀ args w, (callFunc 15 args).run Try.prog w = .ok (.enter 15 args) w := enters_of Try.func15 z6_ rfl
 have eg4 : ∀ args w, (callFunc 16 args).run Try.prog w = .ok (.enter 16 args) w := enters_of Try.func16 z6_ rfl
 have eg5 : ∀ args w, (callFunc 17 args).run Try.prog w = .ok (.enter 17 args) w := enters_of Try.func17 z6_ rfl
 have eg6 : ∀ args w, (callFunc 18 args).run Try.prog w = .ok (.enter 18 args) w := enters_of Try.func18 z6_ rfl
 have eg7 : ∀ args w, (callFunc 19 args).run Try.prog w = .ok (.enter 19 args) w := enters_of Try.func19 z6_ rfl
 have eg8 : ∀ args w, (callFunc 20 args).run Try.prog w = .ok (.enter 20 args) w := enters_of Try.func20 z6_ rfl
 have eg9 : ∀ args w, (callFunc 21 args).run Try.prog w = .ok (.enter 21 args) w := enters_of Try.func21 z6_ rfl
 have eg10 : ∀ args w, (callFunc 23 args).run Try.prog w = .ok (.enter 23 args) w := enters_of Try.func23 z6_ rfl
 have eg11 : ∀ args w, (callFunc 22 args).run Try.prog w = .ok (.enter 22 args) w := enters_of Try.func22 z6_ rfl
 by_cases hs : smallB vs l 40 = false
 ·have HS := a0_ hs
  clear hs
  go_enter Try.func4, Try.ntmps4
  go_wp2_with (first | ((with_reducible refine gate_dst (N := 6) rfl ?_); refine box_event ?hg (N := 6) ?hd (cs := #[.int .i64 a, .int .i64 b, .bool c]) (t := 61) ?hr ?_; (case hd => rfl); (case hg => rfl); (case hr => exact z29_); intro gb hg w1_ hbox hb; have GEgb := a0_ (z152_ : w.heap.size ≤ gb); have BKgb := a0_ hbox; replace HB := a0_ (below_step HB.out hb); clear hb hbox hg; have hcgb_0 : w1_.cell? ⟨gb, 0, none⟩ = some (.int .i64 a) := (blk_cell BKgb.out 0).trans rfl; have hfgb_0 := blk_frozen BKgb.out 0; have hcgb_1 : w1_.cell? ⟨gb, 1, none⟩ = some (.int .i64 b) := (blk_cell BKgb.out 1).trans rfl; have hfgb_1 := blk_frozen BKgb.out 1; have hcgb_2 : w1_.cell? ⟨gb, 2, none⟩ = some (.bool c) := (blk_cell BKgb.out 2).trans rfl; have hfgb_2 := blk_frozen BKgb.out 2) | (go_at_fn 12; refine (small_sem A0 c0 vs A2 c2 l 40 z8_ _ (Kd.C_below HR0.out HB.out) HC0.out (Kd.C_below HR2.out HB.out) HC2.out).mono ?_; rintro e ws ⟨he, hb⟩; rw [HS.out] at he; subst he; replace HB := a0_ (below_step HB.out hb); replace BKgb := a0_ (blk_below BKgb.out hb); clear hb hcgb_0 hcgb_1 hcgb_2 hfgb_0 hfgb_1 hfgb_2; have hcgb_0 : ws.cell? ⟨gb, 0, none⟩ = some (.int .i64 a) := (blk_cell BKgb.out 0).trans rfl; have hfgb_0 := blk_frozen BKgb.out 0; have hcgb_1 : ws.cell? ⟨gb, 1, none⟩ = some (.int .i64 b) := (blk_cell BKgb.out 1).trans rfl; have hfgb_1 := blk_frozen BKgb.out 1; have hcgb_2 : ws.cell? ⟨gb, 2, none⟩ = some (.bool c) := (blk_cell BKgb.out 2).trans rfl; have hfgb_2 := blk_frozen BKgb.out 2) | (go_at_fn 14; refine (stored.calls _).mono ?_; rintro e wz ⟨rfl, hb⟩; replace HB := a0_ (below_step HB.out hb); clear hb))
  go_ret
  exact ⟨rfl, HB.out⟩
 have HS := a0_ ((Bool.not_eq_false _).mp hs)
 clear hs
 by_cases hbb : rightB a b = false
 ·have HBB := a0_ hbb
  clear hbb
  go_enter Try.func4, Try.ntmps4
  go_wp2_with (first | ((with_reducible refine gate_dst (N := 6) rfl ?_); refine box_event ?hg (N := 6) ?hd (cs := #[.int .i64 a, .int .i64 b, .bool c]) (t := 61) ?hr ?_; (case hd => rfl); (case hg => rfl); (case hr => exact z29_); intro gb hg w2_ hbox hb; have GEgb := a0_ (z152_ : w.heap.size ≤ gb); have BKgb := a0_ hbox; replace HB := a0_ (below_step HB.out hb); clear hb hbox hg; have hcgb_0 : w2_.cell? ⟨gb, 0, none⟩ = some (.int .i64 a) := (blk_cell BKgb.out 0).trans rfl; have hfgb_0 := blk_frozen BKgb.out 0; have hcgb_1 : w2_.cell? ⟨gb, 1, none⟩ = some (.int .i64 b) := (blk_cell BKgb.out 1).trans rfl; have hfgb_1 := blk_frozen BKgb.out 1; have hcgb_2 : w2_.cell? ⟨gb, 2, none⟩ = some (.bool c) := (blk_cell BKgb.out 2).trans rfl; have hfgb_2 := blk_frozen BKgb.out 2) | (go_at_fn 12; refine (small_sem A0 c0 vs A2 c2 l 40 z8_ _ (Kd.C_below HR0.out HB.out) HC0.out (Kd.C_below HR2.out HB.out) HC2.out).mono ?_; rintro e ws ⟨he, hb⟩; rw [HS.out] at he; subst he; replace HB := a0_ (below_step HB.out hb); replace BKgb := a0_ (blk_below BKgb.out hb); clear hb hcgb_0 hcgb_1 hcgb_2 hfgb_0 hfgb_1 hfgb_2; have hcgb_0 : ws.cell? ⟨gb, 0, none⟩ = some (.int .i64 a) := (blk_cell BKgb.out 0).trans rfl; have hfgb_0 := blk_frozen BKgb.out 0; have hcgb_1 : ws.cell? ⟨gb, 1, none⟩ = some (.int .i64 b) := (blk_cell BKgb.out 1).trans rfl; have hfgb_1 := blk_frozen BKgb.out 1; have hcgb_2 : ws.cell? ⟨gb, 2, none⟩ = some (.bool c) := (blk_cell BKgb.out 2).trans rfl; have hfgb_2 := blk_frozen BKgb.out 2) | (go_at_fn 13; refine (lag_Right.calls a b c _ _ (rightB_eq a b c)).mono ?_; rintro e wl ⟨he, hb⟩; rw [HBB.out] at he; subst he; replace HB := a0_ (below_step HB.out hb); replace BKgb := a0_ (blk_below BKgb.out hb); clear hb) | (go_at_fn 14; refine (stored.calls _).mono ?_; rintro e wz ⟨rfl, hb⟩; replace HB := a0_ (below_step HB.out hb); clear hb))
  go_ret
  exact ⟨rfl, HB.out⟩
 have HBB := a0_ ((Bool.not_eq_false _).mp hbb)
 clear hbb
 go_enter Try.func4, Try.ntmps4
 go_upto_region 3 with (first | ((with_reducible refine gate_dst (N := 6) rfl ?_); refine box_event ?hg (N := 6) ?hd (cs := #[.int .i64 a, .int .i64 b, .bool c]) (t := 61) ?hr ?_; (case hd => rfl); (case hg => rfl); (case hr => exact z29_); intro gb hg w3_ hbox hb; have GEgb := a0_ (z152_ : w.heap.size ≤ gb); have BKgb := a0_ hbox; replace HB := a0_ (below_step HB.out hb); clear hb hbox hg; have hcgb_0 : w3_.cell? ⟨gb, 0, none⟩ = some (.int .i64 a) := (blk_cell BKgb.out 0).trans rfl; have hfgb_0 := blk_frozen BKgb.out 0; have hcgb_1 : w3_.cell? ⟨gb, 1, none⟩ = some (.int .i64 b) := (blk_cell BKgb.out 1).trans rfl; have hfgb_1 := blk_frozen BKgb.out 1; have hcgb_2 : w3_.cell? ⟨gb, 2, none⟩ = some (.bool c) := (blk_cell BKgb.out 2).trans rfl; have hfgb_2 := blk_frozen BKgb.out 2) | (go_at_fn 12; refine (small_sem A0 c0 vs A2 c2 l 40 z8_ _ (Kd.C_below HR0.out HB.out) HC0.out (Kd.C_below HR2.out HB.out) HC2.out).mono ?_; rintro e ws ⟨he, hb⟩; rw [HS.out] at he; subst he; replace HB := a0_ (below_step HB.out hb); replace BKgb := a0_ (blk_below BKgb.out hb); clear hb hcgb_0 hcgb_1 hcgb_2 hfgb_0 hfgb_1 hfgb_2; have hcgb_0 : ws.cell? ⟨gb, 0, none⟩ = some (.int .i64 a) := (blk_cell BKgb.out 0).trans rfl; have hfgb_0 := blk_frozen BKgb.out 0; have hcgb_1 : ws.cell? ⟨gb, 1, none⟩ = some (.int .i64 b) := (blk_cell BKgb.out 1).trans rfl; have hfgb_1 := blk_frozen BKgb.out 1; have hcgb_2 : ws.cell? ⟨gb, 2, none⟩ = some (.bool c) := (blk_cell BKgb.out 2).trans rfl; have hfgb_2 := blk_frozen BKgb.out 2) | (go_at_fn 13; refine (lag_Right.calls a b c _ _ (rightB_eq a b c)).mono ?_; rintro e wl ⟨he, hb⟩; rw [HBB.out] at he; subst he; replace HB := a0_ (below_step HB.out hb); replace BKgb := a0_ (blk_below BKgb.out hb); clear hb))
 clear hcgb_0 hcgb_1 hcgb_2 hfgb_0 hfgb_1 hfgb_2
 go_upto_region 6 with (first | (go_at_fn 15; refine (queue_New.calls 0 [] [] 0 0 0 _ st8).mono ?_; rintro e wn ⟨v0, v1, rfl, h0, h1, hb⟩; obtain ⟨B0, d0, rfl⟩ := Kd.S_slice h0; obtain ⟨B1, d1, rfl⟩ := Kd.R_slice h1; replace HB := a0_ (below_step HB.out hb); replace BKgb := a0_ (blk_below BKgb.out hb); clear hb h0 h1) | ((with_reducible refine gate_dst (N := 11) rfl ?_); refine box_event ?hg (N := 11) ?hd (cs := #[.slice none 0 0, .slice none 0 0, .int .i64 0, .int .i64 0]) (t := 68) ?hr ?_; (case hd => rfl); (case hg => rfl); (case hr => exact z29_); intro gq hg w4_ hbox hb; have Lgb := blk_lt BKgb.out; have hngbgq : gb ≠ gq := (fun h => z7_); have hngqgb : gq ≠ gb := (fun h => z7_); replace BKgb := a0_ (blk_below BKgb.out hb); have GEgq := a0_ (z152_ : w.heap.size ≤ gq); have BKgq := a0_ hbox; replace HB := a0_ (below_step HB.out hb); clear hb hbox hg Lgb; have hcgq_0 : w4_.cell? ⟨gq, 0, none⟩ = some (.slice none 0 0) := (blk_cell BKgq.out 0).trans rfl; have hfgq_0 := blk_frozen BKgq.out 0; have hcgq_1 : w4_.cell? ⟨gq, 1, none⟩ = some (.slice none 0 0) := (blk_cell BKgq.out 1).trans rfl; have hfgq_1 := blk_frozen BKgq.out 1; have hcgq_2 : w4_.cell? ⟨gq, 2, none⟩ = some (.int .i64 0) := (blk_cell BKgq.out 2).trans rfl; have hfgq_2 := blk_frozen BKgq.out 2; have hcgq_3 : w4_.cell? ⟨gq, 3, none⟩ = some (.int .i64 0) := (blk_cell BKgq.out 3).trans rfl; have hfgq_3 := blk_frozen BKgq.out 3))
 clear hcgq_0 hfgq_0 hcgq_1 hfgq_1 hcgq_2 hfgq_2 hcgq_3 hfgq_3
 have nBKgq := a0_ (blk_put (cs' := #[.slice B0 0 d0, .slice B1 0 d1, .int .i64 0, .int .i64 0]) (blk_put (cs' := #[.slice B0 0 d0, .slice B1 0 d1, .int .i64 0, .int .i64 0]) (blk_put (cs' := #[.slice B0 0 d0, .slice B1 0 d1, .int .i64 0, .int .i64 0]) (blk_put (cs' := #[.slice B0 0 d0, .slice none 0 0, .int .i64 0, .int .i64 0]) BKgq.out 0 _ rfl) 1 _ rfl) 2 _ rfl) 3 _ rfl)
 have nBKgb := a0_ (blk_far (p := ⟨gq, 3, none⟩) (blk_far (p := ⟨gq, 2, none⟩) (blk_far (p := ⟨gq, 1, none⟩) (blk_far (p := ⟨gq, 0, none⟩) BKgb.out hngbgq (.slice B0 0 d0)) hngbgq (.slice B1 0 d1)) hngbgq (.int .i64 0)) hngbgq (.int .i64 0))
 have nHB := a0_ (below_set (j := 3) (v := .int .i64 0) (below_set (j := 2) (v := .int .i64 0) (below_set (j := 1) (v := .slice B1 0 d1) (below_set (j := 0) (v := .slice B0 0 d0) HB.out GEgq.out) GEgq.out) GEgq.out) GEgq.out)
 clear BKgb BKgq HB
 generalize (World.setCell (World.setCell (World.setCell (World.setCell w4_ ⟨gq, 0, none⟩ (.slice B0 0 d0)) ⟨gq, 1, none⟩ (.slice B1 0 d1)) ⟨gq, 2, none⟩ (.int .i64 0)) ⟨gq, 3, none⟩ (.int .i64 0)) = w5_ at nBKgb nBKgq nHB ⊢
 have BKgb := a0_ nBKgb.out
 have BKgq := a0_ nBKgq.out
 have HB := a0_ nHB.out
 clear nBKgb nBKgq nHB
 have LQ := blk_lt BKgq.out
 have LB := blk_lt BKgb.out
 have HVF := a0_ (Kd.F_mono (ok' := fun k => k ≠ gq ∧ k ≠ gb) (Kd.F_below (Kd.C_F k137_heap HR0.out) HB.out) (fun k hk => ⟨fun h => by have := GEgq.out; omega, fun h => by have := GEgb.out; omega⟩))
 have NS := a0_ (N_new (base := w.heap.size) (e := 59) (Kd.slice 137 k137) (W := w5_) (xs := [vs]) (inner := [.slice A0 vs.length c0]) (ok := fun k => k ≠ gq ∧ k ≠ gb) (okp := fun k => k ≠ gq ∧ k ≠ gb) (Reps.one (FK_slice HVF.out HC0.out) (Reps.none _ _)) (fun _ hk => hk) ⟨fun h => z7_, fun h => z7_⟩ (below_size HB.out) (by simp))
 have HG := a0_ (below_alloc (Below.refl w5_.heap.size w5_) (.cells [.slice A0 vs.length c0].toArray 59 (0, 0)))
 have HVG := a0_ (Kd.F_bound HVF.out)
 go_upto_region 7 with (fail)
 show Code.wp _ _ _ _ (World.alloc w5_ (.cells [.slice A0 vs.length c0].toArray 59 (0, 0)))
 have HVH := a0_ (Kd.F_below HVG.out HG.out)
 generalize World.alloc w5_ (.cells [.slice A0 vs.length c0].toArray 59 (0, 0)) = w13 at NS HG HVH ⊢
 have HBz := a0_ (below_step HB.out HG.out)
 have HBk1 := a0_ (blk_below BKgb.out HG.out)
 have HBk2 := a0_ (blk_below BKgq.out HG.out)
 clear HVG HVF HG BKgb BKgq LQ LB HB
 generalize w5_.heap.size = g13 at NS HVH ⊢
 have HSENT : Aside0 (Sent w w13 gb gq vs a b c 0 (.slice (some ⟨g13, 0, none⟩) 1 1) (.slice A0 vs.length c0) 0) := ⟨[vs], [], [], 0, 0, B0, B1, d0, d1, ⟨HBk1.out, HBk2.out, Nat.zero_le _, fun _ _ => C_empty _ _ _, Nat.zero_le _, fun _ _ => C_empty _ _ _, NS.out, ⟨A0, c0, rfl, HC0.out, Kd.F_mono HVH.out (fun k hk => ⟨hk.1.1, fun h => by have h3 : k = g13 := (by simpa [Value.ownBlock] using h); have := hk.2; omega⟩)⟩, HBz.out, GEgq.out, GEgb.out, hngqgb⟩, SInv.init (by have h := HS.out; unfold smallB at h; rw [Bool.and_eq_true] at h; exact h.1) HBB.out, rfl⟩
 clear HVH NS HBk1 HBk2 HBz GEgq GEgb hngqgb hngbgq
 go_wp2
 go_loopw [13, 14, 15, 16] (fun v13 v14 v15 v16 wr => ∃ (j : Nat) (at_ : Int), v15 = .int .i64 at_ ∧ v16 = .int .i64 j ∧ j ≤ l.length ∧ j ≤ 40 ∧ Aside0 (Sent w wr gb gq vs a b c j v13 v14 at_)) (fun _ _ _ v16 _ => 40 - (intOf v16).toNat)
 case atStart => exact ⟨0, 0, rfl, rfl, Nat.zero_le _, z7_, HSENT⟩
 case round =>
  clear HSENT
  obtain ⟨j, at_, rfl, rfl, hjl, hj40, HSENT⟩ := hrel
  by_cases hin : j < l.length ∧ j < 40
  ·obtain ⟨hj1, hj2⟩ := hin
   obtain ⟨S, sets, opn, fr, T, B0, B1, d0, d1, hw, hiv, hat⟩ := HSENT.out
   clear HSENT
   have HW := a0_ hw
   have HIV := a0_ hiv
   have HAT := a0_ hat
   have hlen : S.length = T + 1 := by have := hiv.len; omega
   have ht40 : T ≤ 40 := by have := hiv.t0; omega
   obtain ⟨gs, c13, e13, -, -, -⟩ := Kd.N_form hw.ns z7_
   rw [hlen] at e13
   subst e13
   obtain ⟨cx, -, hFx, hcx, -⟩ := Kd.N_elem hw.ns [] (T : Int) z7_ z7_
   obtain ⟨A17, c17, rfl, hc17, hF17⟩ := FK_slice_open hFx
   have z17 : wr.cell? ⟨gs, T, none⟩ = some (.slice A17 (sAt S T).length c17) := by
    have h5 : wr.cell? ⟨gs, T * 1 + 0, none⟩ = some (.slice A17 (sAt S T).length c17) := hcx 0 _ rfl
    rwa [Nat.mul_one, Nat.add_zero] at h5
   have HF17 : Aside0 (Kd.C k137 wr A17 (sAt S T).length (sAt S T)) := ⟨Kd.F_now hF17⟩
   have HC17 : Aside0 ((sAt S T).length ≤ c17) := ⟨hc17⟩
   obtain ⟨A14, c14, e14, -, -⟩ := hw.th
   generalize (sAt S at_).length = m14 at e14
   subst e14
   obtain ⟨ad, A18, c18, eA, z18, hc18, hC18⟩ := at_L6 HR2.out (j : Int) z7_ z7_
   subst eA
   have hrd : rd_L6 l (j : Int) = l[j] := by
    unfold rd_L6
    rw [Int.toNat_natCast, List.getD_eq_getElem?_getD, List.getElem?_eq_getElem hj1]
    rfl
   rw [hrd] at z18 hc18 hC18
   rw [Int.toNat_natCast] at z18
   have HWS : Aside0 (l[j].length ≤ 20) := ⟨by
    have h := HS.out
    unfold smallB at h
    rw [Bool.and_eq_true, List.all_eq_true] at h
    have h2 := h.2 l[j] (List.mem_iff_getElem.2 ⟨j, z143_, by rw [List.getElem_take]⟩)
    exact of_decide_eq_true h2⟩
   generalize hws : l[j] = ws at z18 hc18 hC18 HWS
   have HE := a0_ hws
   have HC18 := a0_ hC18
   have HZ18 := a0_ z18
   replace z18 := (hw.bl.cell (World.block_lt_of_cell? w _ z18)).trans z18
   have HL18 := a0_ hc18
   have HRT : Aside0 (right (sAt S T) = true ∧ shape (sAt S T) = shape vs) := ⟨(hiv.at z7_ (Int.le_refl _)).2⟩
   have hjz1 : (j : Int) < (l.length : Int) := by omega
   have hjz2 : (j : Int) < 40 := by omega
   clear hw hiv hat hcx hFx hF17 hc17 hrd hws hC18 hc18
   go_upto_region 13 with (go_at_fn 16; refine (apply_any HF17.out HC17.out (Kd.C_below HC18.out HW.out.bl) HL18.out HRT.out.1).mono ?_; rintro e wa ⟨A19, m19, c19, n19, rfl, HD, hb⟩; have HLQ := a0_ HW.out.lt; replace HW := a0_ (HW.out.below hb); clear hb z18 HF17 HC17)
   go_cut [80] (fun v80 wc => ∃ tb : Bool, v80 = .bool tb ∧ Aside0 (SW w wc gb gq a b c (.slice (some ⟨gs, 0, none⟩) (T + 1) c13) S (.slice A14 m14 c14) (sAt S at_) sets opn fr (T : Int) B0 B1 d0 d1) ∧ Aside0 (tb = true → okWs vs ws ∧ ((T : Int) - tl sets fr < a ∧ (((bytesW opn + bytesS sets) + bytesW ws : Nat) : Int) ≤ b) ∧ m19 = (app (sAt S T) ws).length ∧ (app (sAt S T) ws).length ≤ c19 ∧ Kd.F k137 wc (fun k => wr.heap.size ≤ k) A19 (app (sAt S T) ws).length (app (sAt S T) ws)))
   case first =>
    as_aux_lemma =>
     rcases HD.out with ⟨rfl, ho, hR⟩ | ⟨hn19, ho⟩
     ·have HOK := a0_ (okWs_shape HRT.out.2 ho)
      obtain ⟨Ln, cn, en, hcn, hFn⟩ := hR
      injection en with e1 e2 e3
      subst e1
      subst e3
      have HM := a0_ e2
      have HF19 := a0_ hFn
      have HC19 := a0_ hcn
      clear HD ho hFn hcn e2
      have HWB := a0_ (below_drew1 (Below.refl wa.heap.size wa))
      replace HW := a0_ (HW.out.below (below_drew1 (Below.refl _ _)))
      refine st_ 12 (S := fun w' => w'.cell? ⟨gb, 0, none⟩ = some (.int .i64 a) ∧ w'.cell? ⟨gb, 1, none⟩ = some (.int .i64 b) ∧ w'.cell? ⟨gb, 2, none⟩ = some (.bool c) ∧ w'.cell? ⟨gq, 0, none⟩ = some (.slice B0 sets.length d0) ∧ w'.cell? ⟨gq, 1, none⟩ = some (.slice B1 opn.length d1) ∧ w'.cell? ⟨gq, 2, none⟩ = some (.int .i64 fr) ∧ w'.cell? ⟨gq, 3, none⟩ = some (.int .i64 (T : Int)) ∧ w'.cell? (ad.add j) = some (.slice A18 ws.length c18)) (ds := [9]) ⟨(blk_cell HW.out.bb 0).trans rfl, (blk_cell HW.out.bb 1).trans rfl, (blk_cell HW.out.bb 2).trans rfl, (blk_cell HW.out.bq 0).trans rfl, (blk_cell HW.out.bq 1).trans rfl, (blk_cell HW.out.bq 2).trans rfl, (blk_cell HW.out.bq 3).trans rfl, (HW.out.bl.cell (World.block_lt_of_cell? w _ HZ18.out)).trans HZ18.out⟩ (fun hHeld => ?_)
      generalize World.drew wa = wv at HW HWB hHeld ⊢
      refine pu_ 0 (some 69) rfl rfl ?_
      refine pu_ 1 (some 70) rfl rfl ?_
      refine pu_ 2 (some 71) rfl rfl ?_
      refine pu_ 5 (some 74) rfl rfl ?_
      refine pu_ 6 (some 75) rfl rfl ?_
      refine pu_ 7 (some 76) rfl rfl ?_
      refine ta_ 3 (some 72) rfl rfl hHeld ?_
      refine ta_ 4 (some 73) rfl rfl hHeld ?_
      refine ta_ 8 (some 77) rfl rfl hHeld ?_
      refine la_ 9 (some 78) rfl rfl (fun K hK => ?_)
      refine goes_ Try.func17 z6_ rfl #[.agg #[.int .i64 a, .int .i64 b, .bool c], .agg #[.slice B0 sets.length d0, .slice B1 opn.length d1, .int .i64 fr, .int .i64 (T : Int)], .slice A18 ws.length c18] (by rfl) rfl rfl z157_ ?_
      with_reducible refine (judge_sem HBB.out (Kd.F_now HW.out.f0) HW.out.l0 (Kd.F_now HW.out.f1) HW.out.l1 (Kd.C_below HC18.out HW.out.bl) HL18.out HIV.out.q (by have := HWS.out; omega) (by have := HWS.out; have := ok_bytes HOK.out; omega)).mono ?_
      rintro e wj ⟨n, rfl, hn, hb⟩
      refine ⟨_, rfl, ?_⟩
      have HN := a0_ hn
      replace HWB := a0_ (below_step HWB.out hb)
      replace HW := a0_ (HW.out.below hb)
      clear hn hb
      refine hK.out _ _ ?_
      clear hK K
      refine norm_ (a' := ?_) ?_ ?_
      rotate_left
      ·show Act.put _ (some 78) _ = _
       exact put_
      refine pu_ 10 (some 79) rfl rfl ?_
      refine pu_ 11 (some 80) rfl rfl ?_
      refine done_ z6_ ?_
      go_wp2
      go_meet
      case rel => exact ⟨n == 1, rfl, HW, ⟨fun h => ⟨HOK.out, HN.out.1 (by simpa using h), HM.out, HC19.out, Kd.F_below HF19.out HWB.out⟩⟩⟩
     ·have HX := a0_ hn19
      clear HD hn19 ho
      replace HW := a0_ (HW.out.below (below_drew1 (Below.refl _ _)))
      have hb19 : (n19 == 0) = false := beq_eq_false_iff_ne.2 HX.out
      refine st_ 12 (S := fun w' => True) (ds := []) trivial (fun hHeld => ?_)
      generalize World.drew wa = wv at HW hHeld ⊢
      refine pu_ 0 (some 69) rfl rfl ?_
      refine pu_ 1 (some 70) rfl rfl ?_
      refine pu_ 2 (some 71) rfl rfl ?_
      refine pv_ 3 (some 72) rfl rfl ?_
      refine pv_ 4 (some 73) rfl rfl ?_
      refine pv_ 5 (some 74) rfl rfl ?_
      refine pv_ 6 (some 75) rfl rfl ?_
      refine pv_ 7 (some 76) rfl rfl ?_
      refine pv_ 8 (some 77) rfl rfl ?_
      refine pv_ 9 (some 78) rfl rfl ?_
      refine pv_ 10 (some 79) rfl rfl ?_
      refine pu_ 11 (some 80) rfl rfl ?_
      refine done_ z6_ ?_
      go_wp2
      go_meet
      case rel => exact ⟨false, rfl, HW, ⟨fun h => z150_⟩⟩
   case rest =>
    as_aux_lemma =>
     obtain ⟨tb, rfl, HW, HT⟩ := hcut
     go_upto_if 80 with (fail)
     go_cut [12, 13] (fun v12 v13 wc2 => Aside0 (Sent w wc2 gb gq vs a b c (j + 1) v13 (.slice A14 m14 c14) at_))
     case first =>
      as_aux_lemma =>
       cases tb with
       | false =>
        go_wp2
        go_meet
        case rel => exact ⟨S, sets, opn, fr, T, B0, B1, d0, d1, HW.out, HIV.out.next hj2, HAT.out⟩
       | true =>
        obtain ⟨ho, hjud, hm19, hc19, hF19⟩ := HT.out rfl
        have HOK := a0_ ho
        have HJD := a0_ hjud
        have HM := a0_ (And.intro hm19 hc19)
        have HF19 := a0_ (Kd.F_below hF19 (below_drew1 (Below.refl _ _)))
        clear HT ho hjud hm19 hc19 hF19
        go_upto_region 14 with (fail)
        replace HW := a0_ (HW.out.below (below_drew1 (Below.refl _ _)))
        refine st_ 11 (S := fun w' => w'.cell? ⟨gq, 0, none⟩ = some (.slice B0 sets.length d0) ∧ w'.cell? ⟨gq, 1, none⟩ = some (.slice B1 opn.length d1) ∧ w'.cell? ⟨gq, 2, none⟩ = some (.int .i64 fr) ∧ w'.cell? ⟨gq, 3, none⟩ = some (.int .i64 (T : Int)) ∧ w'.cell? (ad.add j) = some (.slice A18 ws.length c18)) (ds := [5, 9]) ⟨(blk_cell HW.out.bq 0).trans rfl, (blk_cell HW.out.bq 1).trans rfl, (blk_cell HW.out.bq 2).trans rfl, (blk_cell HW.out.bq 3).trans rfl, (HW.out.bl.cell (World.block_lt_of_cell? w _ HZ18.out)).trans HZ18.out⟩ (fun hHeld => ?_)
        generalize World.drew wc = wu at HW HF19 hHeld ⊢
        refine pu_ 1 (some 83) rfl rfl ?_
        refine pu_ 2 (some 84) rfl rfl ?_
        refine pu_ 3 (some 85) rfl rfl ?_
        refine ta_ 0 (some 82) rfl rfl hHeld ?_
        refine ta_ 4 (some 86) rfl rfl hHeld ?_
        refine la_ 5 (some 87) rfl rfl (fun K hK => ?_)
        refine goes_ Try.func18 z6_ rfl #[.agg #[.slice B0 sets.length d0, .slice B1 opn.length d1, .int .i64 fr, .int .i64 (T : Int)], .slice A18 ws.length c18] (by rfl) rfl rfl z157_ ?_
        with_reducible refine (add_sem (Kd.F_now HW.out.f0) HW.out.l0 (Kd.F_now HW.out.f1) HW.out.l1 (Kd.C_below HC18.out HW.out.bl) HL18.out HIV.out.q (by have := HWS.out; omega)).mono ?_
        rintro e wk ⟨v0, v1, r, rfl, hfd, hbr, hlr, q0, q1, hb⟩
        refine ⟨_, rfl, ?_⟩
        have HRR := a0_ (And.intro hfd (And.intro hbr hlr))
        have lqx := HW.out.lt
        replace HW := a0_ (HW.out.below hb)
        obtain ⟨E0, E1, e0, e1, rfl, rfl, hS⟩ := SW.store HW.out lqx.1 lqx.2.2 fr ((T : Int) + 1) q0 q1
        have HSW := a0_ hS
        have HG19 := a0_ (F_put4 (u0 := .slice E0 sets.length e0) (u1 := .slice E1 r.length e1) (u2 := .int .i64 fr) (u3 := .int .i64 ((T : Int) + 1)) (Kd.F_below HF19.out hb) (fun k hk => by have := HLQ.out.1; omega : ∀ k, wr.heap.size ≤ k → k ≠ gq))
        have hcgq_0 : wk.cell? ⟨gq, 0, none⟩ = some (.slice B0 sets.length d0) := (blk_cell HW.out.bq 0).trans rfl
        have hcgq_1 : wk.cell? ⟨gq, 1, none⟩ = some (.slice B1 opn.length d1) := (blk_cell HW.out.bq 1).trans rfl
        have hcgq_2 : wk.cell? ⟨gq, 2, none⟩ = some (.int .i64 fr) := (blk_cell HW.out.bq 2).trans rfl
        have hcgq_3 : wk.cell? ⟨gq, 3, none⟩ = some (.int .i64 (T : Int)) := (blk_cell HW.out.bq 3).trans rfl
        obtain ⟨hfgq_0, hfgq_1, hfgq_2, hfgq_3⟩ := bf4_ HW.out.bq
        clear hfd hbr hlr q0 q1 hb hS HW lqx HF19
        refine hK.out _ _ ?_
        clear hK K
        refine norm_ (a' := ?_) ?_ ?_
        rotate_left
        ·show Act.put _ (some 87) _ = _
         exact put_
        refine pu_ 6 (some 81) rfl rfl ?_
        refine pu_ 7 (some 88) rfl rfl ?_
        refine pu_ 8 (some 89) rfl rfl ?_
        refine la_ 9 (none) rfl rfl (fun K hK => ?_)
        refine skip_ (w1 := ?_) (by rfl) rfl ?_ ?_
        rotate_left
        ·go_simp
         rfl
        refine hK.out _ _ ?_
        clear hK K
        refine pu_ 10 (some 12) rfl rfl ?_
        refine done_ z6_ ?_
        have HFX := a0_ (Kd.F_mono (ok' := fun k => (fun k => k ≠ gq ∧ k ≠ gb) k ∧ some k ≠ (Value.slice (some ⟨gs, 0, none⟩) (T + 1) c13).ownBlock) HG19.out (fun k hk => by have := HLQ.out; exact ⟨⟨z7_, z7_⟩, fun h => by have h9 := this.2.2 k h.symm; omega⟩))
        clear HG19
        have HLN : Aside0 (S.length ≤ 41) := ⟨z7_⟩
        clear hcgq_0 hcgq_1 hcgq_2 hcgq_3 hfgq_0 hfgq_1 hfgq_2 hfgq_3 hHeld
        generalize (World.setCell (World.setCell (World.setCell (World.setCell wk ⟨gq, 0, none⟩ (.slice E0 sets.length e0)) ⟨gq, 1, none⟩ (.slice E1 r.length e1)) ⟨gq, 2, none⟩ (.int .i64 fr)) ⟨gq, 3, none⟩ (.int .i64 ((T : Int) + 1))) = w7 at HSW HFX ⊢
        go_wp2_with ((with_reducible refine gate_builtin (b := .append) (xs := #[.tmp 92, .tmp 94]) rfl ?_); at_builtin; refine Kd.N_append (Kd.slice 137 k137) (w0 := w) w.heap.size rfl (.tmp 92) (.tmp 94) 71 59 (.slice none 0 0) 24 rfl Try.underlying71 infoVols rfl z8_ z7_ (.slice (some ⟨gs, 0, none⟩) (T + 1) c13) S (app (sAt S T) ws) [.slice A19 m19 c19] (fun k => k ≠ gq ∧ k ≠ gb) (fun k => (fun k => k ≠ gq ∧ k ≠ gb) k ∧ some k ≠ (Value.slice (some ⟨gs, 0, none⟩) (T + 1) c13).ownBlock) rfl rfl (by rw [HM.out.1]; exact FK_slice HFX.out HM.out.2) (fun k hk => hk) (fun k hk => by have := HSW.out.lt; exact ⟨z7_, z7_⟩) HSW.out.ns HSW.out.bl (below_size HSW.out.bl) (by have := HLN.out; omega) ?_; intro v13n w8 hN8 hB8 hg8 hat8; have HS8 := a0_ (SW.append HSW.out hN8 hB8 hg8 hat8); clear hN8 hB8 hg8 hat8)
        go_meet
        case rel =>
         have hadd := HIV.out.add hj2 HOK.out HWS.out HJD.out.1 HJD.out.2 HRR.out.1 HRR.out.2.1 HRR.out.2.2
         have hth : sAt (S ++ [app (sAt S T) ws]) at_ = sAt S at_ := by
          rw [HAT.out]
          have h0 := HIV.out.t0
          exact sAt_append _ (HIV.out.at z7_ z7_).1
         rw [show (T : Int) + 1 = ((T + 1 : Nat) : Int) from z7_] at hadd
         have hs8 := HS8.out
         rw [show (T : Int) + 1 = ((T + 1 : Nat) : Int) from z7_] at hs8
         refine ⟨S ++ [app (sAt S T) ws], sets, r, fr, T + 1, E0, E1, e0, e1, ?_, hadd, HAT.out⟩
         rw [hth]
         exact hs8
     case rest =>
      as_aux_lemma =>
       clear HIV HAT HWS HE HC18 HL18 HRT HZ18 HLQ HT HW hlen ht40
       obtain ⟨S, sets, opn, fr, T, B0, B1, d0, d1, hw, hiv, hat⟩ := hcut.out
       clear hcut
       have HW := a0_ hw
       have HIV := a0_ hiv
       have HAT := a0_ hat
       obtain ⟨A13, c13, e13⟩ := Kd.N_slice hw.ns
       subst e13
       clear hw hiv hat
       go_upto_region 18 with (fail)
       go_cut [112] (fun v112 wd => ∃ tb : Bool, v112 = .bool tb ∧ Aside0 (tb = true → fr < (T : Int)) ∧ wd = wc)
       case first =>
        as_aux_lemma =>
         have hcgq_0 : wc.cell? ⟨gq, 0, none⟩ = some (.slice B0 sets.length d0) := (blk_cell HW.out.bq 0).trans rfl
         have hcgq_1 : wc.cell? ⟨gq, 1, none⟩ = some (.slice B1 opn.length d1) := (blk_cell HW.out.bq 1).trans rfl
         have hcgq_2 : wc.cell? ⟨gq, 2, none⟩ = some (.int .i64 fr) := (blk_cell HW.out.bq 2).trans rfl
         have hcgq_3 : wc.cell? ⟨gq, 3, none⟩ = some (.int .i64 (T : Int)) := (blk_cell HW.out.bq 3).trans rfl
         by_cases h1 : j < cu.length
         ·obtain ⟨ad3, e3, z3⟩ := Kd.at_bool (Kd.C_below HR3.out HW.out.bl) (j : Int) z7_ z7_
          subst e3
          rw [Int.toNat_natCast] at z3
          generalize rdOf false cu (j : Int) = b3 at z3
          have h1z : (j : Int) < (cu.length : Int) := by omega
          cases b3 with
          | false =>
           go_wp2
           go_meet
           case rel => exact ⟨false, rfl, ⟨fun h => z150_⟩, rfl⟩
          | true =>
           by_cases h3 : fr < (T : Int)
           ·have h3z : (T : Int) > fr := h3
            have H3 := a0_ h3
            go_wp2
            go_meet
            case rel => exact ⟨true, by simp, ⟨fun _ => H3.out⟩, rfl⟩
           ·have h3z : ¬ (T : Int) > fr := h3
            go_wp2
            go_meet
            case rel => exact ⟨false, by simp, ⟨fun h => z150_⟩, rfl⟩
         ·have h1z : ¬ (j : Int) < (cu.length : Int) := by omega
          go_wp2
          go_meet
          case rel => exact ⟨false, rfl, ⟨fun h => z150_⟩, rfl⟩
       case rest =>
        as_aux_lemma =>
         obtain ⟨tb, rfl, HT, hwd⟩ := hcut
         subst hwd
         go_upto_if 112 with (fail)
         go_cut [] (fun wd => Aside0 (Sent w wd gb gq vs a b c (j + 1) (.slice A13 S.length c13) (.slice A14 m14 c14) at_))
         case first =>
          as_aux_lemma =>
           cases tb with
           | false =>
            go_wp2
            go_meet
            case rel => exact ⟨S, sets, opn, fr, T, B0, B1, d0, d1, HW.out, HIV.out, HAT.out⟩
           | true =>
            have HTT := a0_ (HT.out rfl)
            clear HT
            have hcgq_0 : wc.cell? ⟨gq, 0, none⟩ = some (.slice B0 sets.length d0) := (blk_cell HW.out.bq 0).trans rfl
            have hcgq_1 : wc.cell? ⟨gq, 1, none⟩ = some (.slice B1 opn.length d1) := (blk_cell HW.out.bq 1).trans rfl
            have hcgq_2 : wc.cell? ⟨gq, 2, none⟩ = some (.int .i64 fr) := (blk_cell HW.out.bq 2).trans rfl
            have hcgq_3 : wc.cell? ⟨gq, 3, none⟩ = some (.int .i64 (T : Int)) := (blk_cell HW.out.bq 3).trans rfl
            go_wp2_with (go_at_fn 19; refine (cut_sem (Kd.F_now HW.out.f0) HW.out.l0 (Kd.F_now HW.out.f1) HW.out.l1 HIV.out.q HTT.out).mono ?_; rintro e wk ⟨v0, v1, rfl, q0, q1, hb⟩; have lqx := HW.out.lt; replace HW := a0_ (HW.out.below hb); obtain ⟨E0, E1, e0, e1, rfl, rfl, hS⟩ := SW.store HW.out lqx.1 lqx.2.2 (T : Int) (T : Int) q0 q1; simp only [List.length_append, List.length_cons, List.length_nil, Nat.zero_add] at hS; have HSW := a0_ hS; clear hcgq_0 hcgq_1 hcgq_2 hcgq_3; have hcgq_0 : wk.cell? ⟨gq, 0, none⟩ = some (.slice B0 sets.length d0) := (blk_cell HW.out.bq 0).trans rfl; have hcgq_1 : wk.cell? ⟨gq, 1, none⟩ = some (.slice B1 opn.length d1) := (blk_cell HW.out.bq 1).trans rfl; have hcgq_2 : wk.cell? ⟨gq, 2, none⟩ = some (.int .i64 fr) := (blk_cell HW.out.bq 2).trans rfl; have hcgq_3 : wk.cell? ⟨gq, 3, none⟩ = some (.int .i64 (T : Int)) := (blk_cell HW.out.bq 3).trans rfl; obtain ⟨hfgq_0, hfgq_1, hfgq_2, hfgq_3⟩ := bf4_ HW.out.bq; clear q0 q1 hb hS HW lqx)
            go_meet
            case rel =>
             have hc := HIV.out.cut HTT.out
             exact ⟨S, sets ++ [⟨fr, T, opn⟩], [], T, T, E0, E1, e0, e1, HSW.out, hc.1, by rw [hc.2]; exact HAT.out⟩
         case rest =>
          as_aux_lemma =>
           clear HIV HAT HT HW
           obtain ⟨S, sets, opn, fr, T, B0, B1, d0, d1, hw, hiv, hat⟩ := hcut.out
           clear hcut
           have HW := a0_ hw
           have HIV := a0_ hiv
           have HAT := a0_ hat
           obtain ⟨A13, c13, e13⟩ := Kd.N_slice hw.ns
           rw [e13] at HW ⊢
           clear hw hiv hat e13
           go_upto_region 20 with (fail)
           go_cut [133] (fun v133 wd => ∃ tb : Bool, v133 = .bool tb ∧ Aside0 (tb = true → 0 < sets.length) ∧ wd = wc)
           case first =>
            as_aux_lemma =>
             have hcgq_0 : wc.cell? ⟨gq, 0, none⟩ = some (.slice B0 sets.length d0) := (blk_cell HW.out.bq 0).trans rfl
             have hcgq_1 : wc.cell? ⟨gq, 1, none⟩ = some (.slice B1 opn.length d1) := (blk_cell HW.out.bq 1).trans rfl
             have hcgq_2 : wc.cell? ⟨gq, 2, none⟩ = some (.int .i64 fr) := (blk_cell HW.out.bq 2).trans rfl
             have hcgq_3 : wc.cell? ⟨gq, 3, none⟩ = some (.int .i64 (T : Int)) := (blk_cell HW.out.bq 3).trans rfl
             by_cases h1 : j < ta.length
             ·obtain ⟨ad3, e3, z3⟩ := Kd.at_bool (Kd.C_below HR4.out HW.out.bl) (j : Int) z7_ z7_
              subst e3
              rw [Int.toNat_natCast] at z3
              generalize rdOf false ta (j : Int) = b3 at z3
              have h1z : (j : Int) < (ta.length : Int) := by omega
              cases b3 with
              | false =>
               go_wp2
               go_meet
               case rel => exact ⟨false, rfl, ⟨fun h => z150_⟩, rfl⟩
              | true =>
               by_cases h3 : 0 < sets.length
               ·have h3z : (sets.length : Int) > 0 := by omega
                have H3 := a0_ h3
                go_wp2
                go_meet
                case rel => exact ⟨true, by simp, ⟨fun _ => H3.out⟩, rfl⟩
               ·have h3z : ¬ (sets.length : Int) > 0 := by omega
                have h3y : sets.length = 0 := by omega
                go_wp2
                go_meet
                case rel => exact ⟨false, by simp, ⟨fun h => z150_⟩, rfl⟩
             ·have h1z : ¬ (j : Int) < (ta.length : Int) := by omega
              go_wp2
              go_meet
              case rel => exact ⟨false, rfl, ⟨fun h => z150_⟩, rfl⟩
           case rest =>
            as_aux_lemma =>
             obtain ⟨tb, rfl, HT, hwd⟩ := hcut
             subst hwd
             go_upto_if 133 with (fail)
             go_cut [14, 15] (fun v14 v15 wd => ∃ at2 : Int, v15 = .int .i64 at2 ∧ Aside0 (Sent w wd gb gq vs a b c (j + 1) (.slice A13 S.length c13) v14 at2))
             case first =>
              as_aux_lemma =>
               cases tb with
               | false =>
                go_wp2
                go_meet
                case rel => exact ⟨at_, rfl, S, sets, opn, fr, T, B0, B1, d0, d1, HW.out, HIV.out, HAT.out⟩
               | true =>
                have hpos := HT.out rfl
                clear HT
                cases sets with
                | nil => exact absurd hpos (by simp)
                | cons s rs =>
                 have hlz : (s :: rs).length = rs.length + 1 := rfl
                 obtain ⟨ad5, A2s, c2s, e5, y0, y1, y2, hls, hCs⟩ := at_T51 (Kd.F_now HW.out.f0) (0 : Int) z7_ z28_
                 rw [show rd_T51 (s :: rs) (0 : Int) = s from rfl] at y0 y1 y2 hls hCs
                 rw [show ((0 : Int).toNat * 3) = 0 from rfl, show ad5.add 0 = ad5 from by simp [Addr.add]] at y0 y1 y2
                 subst e5
                 have HCS := a0_ hCs
                 have HLS := a0_ hls
                 obtain ⟨At, nt, et, hnt, hFt⟩ := HW.out.th
                 have HET := a0_ et
                 have HNT := a0_ hnt
                 have HFT := a0_ (Kd.F_now hFt)
                 clear hCs hls et hnt hFt hpos hlz
                 have hcgq_0 : wc.cell? ⟨gq, 0, none⟩ = some (.slice (some ad5) (rs.length + 1) d0) := (blk_cell HW.out.bq 0).trans rfl
                 have hcgq_1 : wc.cell? ⟨gq, 1, none⟩ = some (.slice B1 opn.length d1) := (blk_cell HW.out.bq 1).trans rfl
                 have hcgq_2 : wc.cell? ⟨gq, 2, none⟩ = some (.int .i64 fr) := (blk_cell HW.out.bq 2).trans rfl
                 have hcgq_3 : wc.cell? ⟨gq, 3, none⟩ = some (.int .i64 (T : Int)) := (blk_cell HW.out.bq 3).trans rfl
                 go_upto_region 22 with ((with_reducible refine gate_dst (N := 20) rfl ?_); refine box_event ?hg (N := 20) ?hd (cs := #[.int .i64 0, .int .i64 0, .slice none 0 0]) (t := 51) ?hr ?_; (case hd => rfl); (case hg => rfl); (case hr => exact z29_); intro g20 hg w20 hbox hb; have HG20 := a0_ (z39_ : wc.heap.size ≤ g20); have HB20 := a0_ hb; have BK20 := a0_ hbox; clear hb hbox hg; have hcz0 : w20.cell? ⟨g20, 0, none⟩ = some (.int .i64 0) := (blk_cell BK20.out 0).trans rfl; have hcz1 : w20.cell? ⟨g20, 1, none⟩ = some (.int .i64 0) := (blk_cell BK20.out 1).trans rfl; have hcz2 : w20.cell? ⟨g20, 2, none⟩ = some (.slice none 0 0) := (blk_cell BK20.out 2).trans rfl; obtain ⟨hfz0, hfz1, hfz2⟩ := bf3_ BK20.out)
                 have BK21 := a0_ (blk_put (cs' := #[.int .i64 s.f0, .int .i64 s.f1, .slice A2s s.f2.length c2s]) (blk_put (cs' := #[.int .i64 s.f0, .int .i64 s.f1, .slice none 0 0]) (blk_put (cs' := #[.int .i64 s.f0, .int .i64 0, .slice none 0 0]) BK20.out 0 _ rfl) 1 _ rfl) 2 _ rfl)
                 have HB21 := a0_ (below_set (j := 2) (v := .slice A2s s.f2.length c2s) (below_set (j := 1) (v := .int .i64 s.f1) (below_set (j := 0) (v := .int .i64 s.f0) HB20.out HG20.out) HG20.out) HG20.out)
                 clear hcz0 hcz1 hcz2 hfz0 hfz1 hfz2 BK20 HB20 y0 y1 y2 hcgq_0 hcgq_1 hcgq_2 hcgq_3
                 generalize (World.setCell (World.setCell (World.setCell w20 ⟨g20, 0, none⟩ (.int .i64 s.f0)) ⟨g20, 1, none⟩ (.int .i64 s.f1)) ⟨g20, 2, none⟩ (.slice A2s s.f2.length c2s)) = w21 at BK21 HB21 ⊢
                 have hs0 : w21.cell? ⟨g20, 2, none⟩ = some (.slice A2s s.f2.length c2s) := (blk_cell BK21.out 2).trans rfl
                 have HRT := a0_ (HIV.out.at HIV.out.t0.1 (by have := HIV.out.t0; omega))
                 have hem : m14 = (sAt S at_).length := by have := HET.out; injection this
                 have hem2 : A14 = At := by have := HET.out; injection this
                 have hem3 : c14 = nt := by have := HET.out; injection this
                 subst hem2
                 subst hem3
                 have HDN := a0_ HIV.out.done
                 rw [← HAT.out] at HRT
                 subst hem
                 clear HET
                 go_upto_region 25 with (go_at_fn 16; refine (apply_sem (Kd.C_below HFT.out HB21.out) HNT.out (Kd.C_below HCS.out HB21.out) HLS.out HRT.out.2.1 (okWs_shape HRT.out.2.2.symm HDN.out.2.2.2.2)).mono ?_; rintro e w22 ⟨v22, rfl, hR, hb⟩; obtain ⟨A22, c22, rfl, hc22, hF22⟩ := hR; have HR22 := a0_ (Rn.mk (w0 := w21) hF22 (fun _ h => h) hc22); have BK22 := a0_ (blk_below BK21.out hb); have HB22 := a0_ (below_step HB21.out hb); clear hb hc22 hF22 hs0 BK21)
                 have lq0 := HW.out.lt
                 have lq1 := HB21.out.size
                 replace HW := a0_ (SW.there (W := w21) (HW.out.below HB22.out) z7_ (fun k hk => by have := lq0.2.2 k hk; omega) HR22.out)
                 have yb1 : w22.cell? ⟨g20, 1, none⟩ = some (.int .i64 s.f1) := (blk_cell BK22.out 1).trans rfl
                 clear HB21 HB22 HR22 BK22 lq0 lq1 HG20 HFT HNT HCS HLS
                 have hcgq_0 : w22.cell? ⟨gq, 0, none⟩ = some (.slice (some ad5) (rs.length + 1) d0) := (blk_cell HW.out.bq 0).trans rfl
                 have hcgq_1 : w22.cell? ⟨gq, 1, none⟩ = some (.slice B1 opn.length d1) := (blk_cell HW.out.bq 1).trans rfl
                 have hcgq_2 : w22.cell? ⟨gq, 2, none⟩ = some (.int .i64 fr) := (blk_cell HW.out.bq 2).trans rfl
                 have hcgq_3 : w22.cell? ⟨gq, 3, none⟩ = some (.int .i64 (T : Int)) := (blk_cell HW.out.bq 3).trans rfl
                 go_wp2_with (go_at_fn 20; refine (done_sem s.f1 (Kd.F_now HW.out.f0) HW.out.l0 (Kd.F_now HW.out.f1) HW.out.l1 HIV.out.q).mono ?_; rintro e wk ⟨v0, v1, rfl, q0, q1, hb⟩; rw [HDN.out.1] at q0; have lqx := HW.out.lt; replace HW := a0_ (HW.out.below hb); obtain ⟨E0, E1, e0, e1, rfl, rfl, hS⟩ := SW.store HW.out lqx.1 lqx.2.2 fr (T : Int) q0 q1; have HSW := a0_ hS; clear hcgq_0 hcgq_1 hcgq_2 hcgq_3 yb1; have hcgq_0 : wk.cell? ⟨gq, 0, none⟩ = some (.slice (some ad5) (rs.length + 1) d0) := (blk_cell HW.out.bq 0).trans rfl; have hcgq_1 : wk.cell? ⟨gq, 1, none⟩ = some (.slice B1 opn.length d1) := (blk_cell HW.out.bq 1).trans rfl; have hcgq_2 : wk.cell? ⟨gq, 2, none⟩ = some (.int .i64 fr) := (blk_cell HW.out.bq 2).trans rfl; have hcgq_3 : wk.cell? ⟨gq, 3, none⟩ = some (.int .i64 (T : Int)) := (blk_cell HW.out.bq 3).trans rfl; obtain ⟨hfgq_0, hfgq_1, hfgq_2, hfgq_3⟩ := bf4_ HW.out.bq; clear q0 q1 hb hS HW lqx)
                 go_meet
                 case rel =>
                  have hL : sAt S s.f1 = app (sAt S at_) s.f2 := by rw [HDN.out.2.2.2.1, HAT.out]
                  refine ⟨s.f1, rfl, S, rs, opn, fr, T, E0, E1, e0, e1, ?_, HDN.out.2.1, HDN.out.2.2.1.symm⟩
                  rw [hL]
                  exact HSW.out
             case rest =>
              as_aux_lemma =>
               clear HIV HAT HT HW
               obtain ⟨at2, rfl, HS6⟩ := hcut
               obtain ⟨S, sets, opn, fr, T, B0, B1, d0, d1, hw, hiv, hat⟩ := HS6.out
               clear HS6
               have h0 := hiv.t0
               obtain ⟨q, hq⟩ := Int.eq_ofNat_of_zero_le (show 0 ≤ at2 by rw [hat]; exact h0.1)
               have hqT : q ≤ T := by omega
               rw [hq] at hw ⊢
               rw [hq] at hat
               clear hq at2
               have hlen : S.length = T + 1 := by have := hiv.len; omega
               obtain ⟨gs, c13, e13, -, -, -⟩ := Kd.N_form hw.ns z7_
               rw [hlen] at e13
               rw [e13] at hw ⊢
               clear e13
               have ht40 : T ≤ 40 := by omega
               obtain ⟨A14, c14, e14, hn14, hF14⟩ := hw.th
               rw [e14] at hw ⊢
               clear e14
               obtain ⟨cx, -, hFx, hcx, -⟩ := Kd.N_elem hw.ns [] (T : Int) z7_ z7_
               obtain ⟨A17, c17, rfl, hc17, hF17⟩ := FK_slice_open hFx
               have z17 : wc.cell? ⟨gs, T, none⟩ = some (.slice A17 (sAt S T).length c17) := by
                have h5 : wc.cell? ⟨gs, T * 1 + 0, none⟩ = some (.slice A17 (sAt S T).length c17) := hcx 0 _ rfl
                rwa [Nat.mul_one, Nat.add_zero] at h5
               obtain ⟨cy, -, hFy, hcy, -⟩ := Kd.N_elem hw.ns [] (q : Int) z7_ z7_
               obtain ⟨A16, c16, rfl, hc16, hF16⟩ := FK_slice_open hFy
               have z16 : wc.cell? ⟨gs, q, none⟩ = some (.slice A16 (sAt S q).length c16) := by
                have h5 : wc.cell? ⟨gs, q * 1 + 0, none⟩ = some (.slice A16 (sAt S q).length c16) := hcy 0 _ rfl
                rwa [Nat.mul_one, Nat.add_zero] at h5
               have Z17 := a0_ z17
               have Z16 := a0_ z16
               have HC17 := a0_ hc17
               have HC16 := a0_ hc16
               have HC14 := a0_ hn14
               have HF17 : Aside0 (Kd.C k137 wc A17 (sAt S T).length (sAt S T)) := ⟨Kd.F_now hF17⟩
               have HF16 : Aside0 (Kd.C k137 wc A16 (sAt S q).length (sAt S q)) := ⟨Kd.F_now hF16⟩
               have HF14 := a0_ (Kd.F_now hF14)
               have HRq := a0_ (hiv.at (i := (q : Int)) z7_ z7_).2
               have HRT := a0_ (hiv.at (i := (T : Int)) z7_ (Int.le_refl _)).2
               have hla : ¬ (T : Int) - (q : Int) > a := by have := hiv.la; omega
               obtain ⟨M, hM⟩ : ∃ M : Nat, M = bytesW opn + bytesS sets := ⟨_, rfl⟩
               have hlb : ¬ (M : Int) > b := by have := hiv.lb; rw [hM]; omega
               have HM := a0_ hM
               have hge : ¬ (q : Int) ≥ (T : Int) + 1 := by omega
               have hge2 : ¬ T + 1 ≤ q := by omega
               have HW := a0_ hw
               have HIV := a0_ hiv
               have HAT := a0_ hat
               clear hw hiv hat hcx hFx hF17 hc17 hF14 hn14 hcy hFy hF16 hc16 hM h0 hlen z16 z17
               have hcgq_0 : wc.cell? ⟨gq, 0, none⟩ = some (.slice B0 sets.length d0) := (blk_cell HW.out.bq 0).trans rfl
               have hcgq_1 : wc.cell? ⟨gq, 1, none⟩ = some (.slice B1 opn.length d1) := (blk_cell HW.out.bq 1).trans rfl
               have hcgq_2 : wc.cell? ⟨gq, 2, none⟩ = some (.int .i64 fr) := (blk_cell HW.out.bq 2).trans rfl
               have hcgq_3 : wc.cell? ⟨gq, 3, none⟩ = some (.int .i64 (T : Int)) := (blk_cell HW.out.bq 3).trans rfl
               go_upto_region 28 with (go_at_fn 21; refine (load_sem (Kd.F_now HW.out.f0) HW.out.l0 (Kd.F_now HW.out.f1) HW.out.l1 HIV.out.q).mono ?_; rintro e w1 ⟨he, hb⟩; rw [← HAT.out, ← HM.out] at he; subst he; replace HW := a0_ (HW.out.below hb); have HX := a0_ hb; clear hb)
               clear hcgq_0 hcgq_1 hcgq_2 hcgq_3
               have hcgb_0 : w1.cell? ⟨gb, 0, none⟩ = some (.int .i64 a) := (blk_cell HW.out.bb 0).trans rfl
               have hcgb_1 : w1.cell? ⟨gb, 1, none⟩ = some (.int .i64 b) := (blk_cell HW.out.bb 1).trans rfl
               have hcgb_2 : w1.cell? ⟨gb, 2, none⟩ = some (.bool c) := (blk_cell HW.out.bb 2).trans rfl
               have z16 : w1.cell? ⟨gs, q, none⟩ = some (.slice A16 (sAt S q).length c16) := (HX.out.cell (World.block_lt_of_cell? wc _ Z16.out)).trans Z16.out
               go_upto_region 30 with (go_at_fn 22; refine (same_sem (Kd.C_below HF14.out HX.out) HC14.out (Kd.C_below HF16.out HX.out) HC16.out HRq.out.1).mono ?_; rintro e w2 ⟨rfl, hb⟩; replace HW := a0_ (HW.out.below hb); replace HX := a0_ (below_step HX.out hb); clear hb hcgb_0 hcgb_1 hcgb_2 z16; have hcgb_0 : w2.cell? ⟨gb, 0, none⟩ = some (.int .i64 a) := (blk_cell HW.out.bb 0).trans rfl; have hcgb_1 : w2.cell? ⟨gb, 1, none⟩ = some (.int .i64 b) := (blk_cell HW.out.bb 1).trans rfl; have hcgb_2 : w2.cell? ⟨gb, 2, none⟩ = some (.bool c) := (blk_cell HW.out.bb 2).trans rfl)
               clear hcgb_0 hcgb_1 hcgb_2
               have hcgq_0 : w2.cell? ⟨gq, 0, none⟩ = some (.slice B0 sets.length d0) := (blk_cell HW.out.bq 0).trans rfl
               have hcgq_1 : w2.cell? ⟨gq, 1, none⟩ = some (.slice B1 opn.length d1) := (blk_cell HW.out.bq 1).trans rfl
               have hcgq_2 : w2.cell? ⟨gq, 2, none⟩ = some (.int .i64 fr) := (blk_cell HW.out.bq 2).trans rfl
               have hcgq_3 : w2.cell? ⟨gq, 3, none⟩ = some (.int .i64 (T : Int)) := (blk_cell HW.out.bq 3).trans rfl
               go_upto_region 31 with (first | (go_at_fn 23; refine (all_sem (Kd.F_now HW.out.f0) HW.out.l0 (Kd.F_now HW.out.f1) HW.out.l1 HIV.out.q).mono ?_; rintro e w3 ⟨vA, rA, rfl, hd, hR, hb⟩; have HA := a0_ (HIV.out.all hd); rw [← HAT.out] at HA; obtain ⟨AA, cA, rfl, hcA, hFA⟩ := hR; have HCA := a0_ hcA; have HFA := a0_ (Kd.F_now hFA); replace HW := a0_ (HW.out.below hb); replace HX := a0_ (below_step HX.out hb); clear hb hd hcA hFA hcgq_0 hcgq_1 hcgq_2 hcgq_3) | (go_at_fn 16; refine (apply_sem (Kd.C_below HF14.out HX.out) HC14.out HFA.out HCA.out HRq.out.1 HA.out.2).mono ?_; rintro e w4 ⟨vB, rfl, hR, hb⟩; rw [HA.out.1] at hR; obtain ⟨AB, cB, rfl, hcB, hFB⟩ := hR; have HCB := a0_ hcB; have HFB := a0_ (Kd.F_now hFB); replace HW := a0_ (HW.out.below hb); replace HX := a0_ (below_step HX.out hb); clear hb hcB hFB))
               have z17 : w4.cell? ⟨gs, T, none⟩ = some (.slice A17 (sAt S T).length c17) := (HX.out.cell (World.block_lt_of_cell? wc _ Z17.out)).trans Z17.out
               go_wp2_with (go_at_fn 22; refine (same_sem HFB.out HCB.out (Kd.C_below HF17.out HX.out) HC17.out HRT.out.1).mono ?_; rintro e w5 ⟨rfl, hb⟩; replace HW := a0_ (HW.out.below hb); clear hb z17)
               go_roundw
               case measure => simp [intOf]; omega
               case rel => exact ⟨j + 1, (q : Int), rfl, z9_, z7_, z7_, ⟨S, sets, opn, fr, T, B0, B1, d0, d1, HW.out, HIV.out, HAT.out⟩⟩
  ·have HB : Aside0 (Below w.heap.size w wr) := ⟨by obtain ⟨S, sets, opn, fr, T, B0, B1, d0, d1, hw, hiv, hat⟩ := HSENT.out; exact hw.bl⟩
   clear HSENT
   by_cases hj1 : j < l.length
   ·have hj2 : ¬ (j : Int) < 40 := by omega
    have hjz1 : (j : Int) < (l.length : Int) := by omega
    go_wp2_with (go_at_fn 14; refine (stored.calls _).mono ?_; rintro e wz ⟨rfl, hb⟩; replace HB := a0_ (below_step HB.out hb); clear hb)
    go_ret
    exact ⟨rfl, HB.out⟩
   ·have hjz1 : ¬ (j : Int) < (l.length : Int) := by omega
    go_wp2_with (go_at_fn 14; refine (stored.calls _).mono ?_; rintro e wz ⟨rfl, hb⟩; replace HB := a0_ (below_step HB.out hb); clear hb)
    go_ret
    exact ⟨rfl, HB.out⟩
end Go.Proofs.Ytecfndblgefhdaa.Law
