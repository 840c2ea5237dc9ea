import Derived.Test.YtgfmdfgibkkfaaaKaPx0
import Derived.Test.YtgfmdfgibkkfaaaKaPx5
import Derived.Test.YtgfmdfgibkkfaaaKaEndsW
set_option linter.unusedVariables false
set_option linter.unusedSimpArgs false
namespace Go.Proofs.Ytgfmdfgibkkfaaa.P
open Go.RowKit Go.Proofs.YtgfmdfgibkkfaaaW.PrintWords Go.Proofs.YtgfmdfgibkkfaaaW.PrintLast Go.Proofs.YtgfmdfgibkkfaaaW.PrintMore
attribute [local go_sem] max2_int min2_int max_two min_two max_three min_three max_four min_four
theorem qendsc0_ {p : Prop} (h : p := by exact norm_ (by first | (simp only [putAll, Act.put, List.setIfInBounds_toArray, List.set_cons_zero, List.set_cons_succ]; done) | (simp [putAll, Act.put]; done)) (hCont (_, _, _, _) _ HC.out)) : p := h
def LS.comes0 (L : LS) (R : link_Take.Res) : LS := ({ L with x0 := ⟨L.x0.f0, R.o, R.f, R.l, R.w⟩, c0 := if R.has = true then L.c0 ++ [R.s] else L.c0 } : LS).send ⟨1, R.reply, false⟩
def LS.comes1 (L : LS) (R : link_Take.Res) : LS := ({ L with x1 := ⟨L.x1.f0, R.o, R.f, R.l, R.w⟩, c1 := if R.has = true then L.c1 ++ [R.s] else L.c1 } : LS).send ⟨0, R.reply, false⟩
theorem link_Take.Out_open {w W : World} {base : Nat} {A : Option Addr} {c : Nat} {l l1 : List ByteArray} {v : Value} (h : link_Take.Out W base A c l v l1) (hr : Kd.C Kd.string w A l.length l) (hc : l.length ≤ c) (hb : Below w.heap.size w W) :
    ∃ A1 c1, v = .slice A1 l1.length c1 ∧ l1.length ≤ c1 ∧ Kd.C Kd.string W A1 l1.length l1 := by
  rcases h with ⟨rfl, rfl⟩ | h
  · exact ⟨A, c, rfl, hc, Kd.C_below hr hb⟩
  · obtain ⟨A1, c1, rfl, _⟩ := Kd.Q_slice h
    have := Kd.Q_reads' h
    exact ⟨A1, c1, rfl, by omega, this.2.2⟩
set_option maxHeartbeats 4000000 in
set_option maxRecDepth 100000 in
theorem ends_comes0.calls (k b g : Nat) (L : LS) (ps : ByteArray) (pb : Bool) (R : link_Take.Res) (w : World) (h : Ends b w g L) (hb : b ≤ w.heap.size) (hlc : L.c0.length ≤ 1000) (hk : link_Take.f k L.x0.f0 L.x0.f1 L.x0.f2 L.x0.f3 L.x0.f4 ps = some R) :
    Calls Try.prog 28 #[.pointer (some ⟨g, 0, none⟩), .agg #[.int .i64 0, .string ps, .bool pb]] w fun e w' => e = .returned (.tuple #[]) ∧ Ends b w' g (L.comes0 R) ∧ Below b w w' := by
  obtain ⟨f, v0, v1, vn, q0, q1, r0, r1, h⟩ := h
  obtain ⟨A0, c0, hv, hc, hC⟩ := Kd.Q_reads h.h0
  obtain ⟨Ar, cr, hvr, _, _⟩ := Kd.R_reads h.hc0
  subst hv
  subst hvr
  have HCAP := Aside0.mk hc
  have HK := Aside0.mk hk
  have HLC := Aside0.mk hlc
  have HC : Aside0 (CI b w g L w.heap.size (⟨0, ps, pb⟩ : S65) 0 (.slice A0 L.x0.f3.length c0) v1 vn q0 q1 (.slice Ar L.c0.length cr) r1 none none none (w.alloc (.cells #[.int .i64 0, .string ps, .bool pb] 65 (0, 0)))) := ⟨CI.start h hb 0 ⟨0, ps, pb⟩⟩
  have hrow : ∀ oy oc W, CI b w g L w.heap.size (⟨0, ps, pb⟩ : S65) 0 (.slice A0 L.x0.f3.length c0) v1 vn q0 q1 (.slice Ar L.c0.length cr) r1 oy oc none W → Kd.C Kd.string W A0 L.x0.f3.length L.x0.f3 := fun oy oc W hc => by
    obtain ⟨f', he, _⟩ := hc.ev
    exact (Kd.Q_reads' he.h0).2.2
  have HROW := Aside0.mk hrow
  clear hrow hC hc hk h hb hlc
  have x0 := (blk_cell HC.out.bp 0).trans rfl
  go_enter Try.func28, Try.ntmps28
  go_upto_region 1 with (fail)
  replace HC := Aside0.mk HC.out.drew
  clear x0
  generalize w.alloc (.cells #[.int .i64 0, .string ps, .bool pb] 65 (0, 0)) = W0 at HC ⊢
  generalize w.heap.size = gp at HC HROW ⊢
  refine start_ (n := 17) (S := fun w' => w'.cell? ⟨gp, 0, none⟩ = some (.int .i64 0) ∧ w'.cell? ⟨gp, 1, none⟩ = some (.string ps) ∧ w'.cell? ⟨g, 0, none⟩ = some (.int .i64 L.x0.f0) ∧ w'.cell? ⟨g, 1, none⟩ = some (.int .i64 L.x0.f1) ∧ w'.cell? ⟨g, 2, none⟩ = some (.int .i64 L.x0.f2) ∧ w'.cell? ⟨g, 3, none⟩ = some (.slice A0 L.x0.f3.length c0) ∧ w'.cell? ⟨g, 4, none⟩ = some (.int .i64 L.x0.f4)) (ds := [15, 16]) #[false, false, false, false, false, false, false, false, false, false, false, false, false, false, false, false, false] (by kernel_rfl) rfl rfl ⟨((blk_cell HC.out.bp 0).trans rfl), ((blk_cell HC.out.bp 1).trans rfl), ((blk_cell HC.out.blk 0).trans rfl), ((blk_cell HC.out.blk 1).trans rfl), ((blk_cell HC.out.blk 2).trans rfl), ((blk_cell HC.out.blk 3).trans rfl), ((blk_cell HC.out.blk 4).trans rfl)⟩ (fun hHeld => ?_)
  generalize World.drew W0 = V at HC hHeld ⊢
  refine pure_ (i := 0) (N := some 7) (v := ?_) (a' := ?_) #[true, false, false, false, false, false, false, false, false, false, false, false, false, false, false, false, false] rfl rfl (by kernel_rfl) (fun _ _ _ h => h) (Or.inl ⟨by rfl, ?_⟩) ?_ ?_
  rotate_left
  · intro w'
    go_simp
    with_reducible rfl
  rotate_left
  · exact put_
  refine pure_ (i := 1) (N := some 8) (v := ?_) (a' := ?_) #[true, true, false, false, false, false, false, false, false, false, false, false, false, false, false, false, false] rfl rfl (by kernel_rfl) (fun _ _ _ h => h) (Or.inl ⟨by rfl, ?_⟩) ?_ ?_
  rotate_left
  · intro w'
    go_simp
    with_reducible rfl
  rotate_left
  · exact put_
  refine pure_ (i := 3) (N := some 10) (v := ?_) (a' := ?_) #[true, true, false, true, false, false, false, false, false, false, false, false, false, false, false, false, false] rfl rfl (by kernel_rfl) (fun _ _ _ h => h) (Or.inl ⟨by rfl, ?_⟩) ?_ ?_
  rotate_left
  · intro w'
    go_simp
    with_reducible rfl
  rotate_left
  · exact put_
  refine pure_ (i := 4) (N := some 11) (v := ?_) (a' := ?_) #[true, true, false, true, true, false, false, false, false, false, false, false, false, false, false, false, false] rfl rfl (by kernel_rfl) (fun _ _ _ h => h) (Or.inl ⟨by rfl, ?_⟩) ?_ ?_
  rotate_left
  · intro w'
    go_simp
    with_reducible rfl
  rotate_left
  · exact put_
  refine pure_ (i := 7) (N := some 14) (v := ?_) (a' := ?_) #[true, true, false, true, true, false, false, true, false, false, false, false, false, false, false, false, false] rfl rfl (by kernel_rfl) (fun _ _ _ h => h) (Or.inl ⟨by rfl, ?_⟩) ?_ ?_
  rotate_left
  · intro w'
    go_simp
    with_reducible rfl
  rotate_left
  · exact put_
  refine take_ (i := 2) (N := some 9) (v := ?_) (a' := ?_) #[true, true, true, true, true, false, false, true, false, false, false, false, false, false, false, false, false] rfl rfl (by kernel_rfl) (fun _ _ _ h => h) (Or.inl ⟨by rfl, ?_⟩) hHeld ?_ ?_
  rotate_left
  · rintro w' ⟨s0, s1, s2, s3, s4, s5, s6⟩
    go_simp
    with_reducible rfl
  rotate_left
  · exact put_
  refine pure_ (i := 5) (N := some 12) (v := ?_) (a' := ?_) #[true, true, true, true, true, true, false, true, false, false, false, false, false, false, false, false, false] rfl rfl (by kernel_rfl) (fun _ _ _ h => h) (Or.inl ⟨by rfl, ?_⟩) ?_ ?_
  rotate_left
  · intro w'
    go_simp
    with_reducible rfl
  rotate_left
  · exact put_
  refine take_ (i := 6) (N := some 13) (v := ?_) (a' := ?_) #[true, true, true, true, true, true, true, true, false, false, false, false, false, false, false, false, false] rfl rfl (by kernel_rfl) (fun _ _ _ h => h) (Or.inl ⟨by rfl, ?_⟩) hHeld ?_ ?_
  rotate_left
  · rintro w' ⟨s0, s1, s2, s3, s4, s5, s6⟩
    go_simp
    with_reducible rfl
  rotate_left
  · exact put_
  refine take_ (i := 8) (N := some 15) (v := ?_) (a' := ?_) #[true, true, true, true, true, true, true, true, true, false, false, false, false, false, false, false, false] rfl rfl (by kernel_rfl) (fun _ _ _ h => h) (Or.inl ⟨by rfl, ?_⟩) hHeld ?_ ?_
  rotate_left
  · rintro w' ⟨s0, s1, s2, s3, s4, s5, s6⟩
    go_simp
    with_reducible rfl
  rotate_left
  · exact put_
  refine join_ (σ := Nat × Nat × Option Addr × Nat) 2 #[true, true, true, true, true, true, true, true, true, true, true, true, true, true, true, false, false] (fun s => [(16, .tuple #[.agg #[.int .i64 L.x0.f0, .int .i64 R.o, .int .i64 R.f, .slice s.2.2.1 R.l.length s.2.2.2, .int .i64 R.w], .agg #[.string R.s, .bool R.has, .string R.reply, .bool R.anew]]), (6, .tuple #[.agg #[.int .i64 L.x0.f0, .int .i64 R.o, .int .i64 R.f, .slice s.2.2.1 R.l.length s.2.2.2, .int .i64 R.w], .agg #[.string R.s, .bool R.has, .string R.reply, .bool R.anew]]), (17, .agg #[.int .i64 L.x0.f0, .int .i64 R.o, .int .i64 R.f, .slice s.2.2.1 R.l.length s.2.2.2, .int .i64 R.w]), (18, .agg #[.string R.s, .bool R.has, .string R.reply, .bool R.anew]), (4, .pointer (some ⟨s.1, 0, none⟩)), (5, .pointer (some ⟨s.2.1, 0, none⟩))]) (fun s w' => CI b w g L gp (⟨0, ps, pb⟩ : S65) 0 (.slice A0 L.x0.f3.length c0) v1 vn q0 q1 (.slice Ar L.c0.length cr) r1 (some s.1) (some s.2.1) (some (.slice s.2.2.1 R.l.length s.2.2.2, R.l)) w') ?_ ?_
  rotate_left
  · intro hCont
    refine three_ (i := 9) (j := 13) (k := 14) (Ni := some 16) (Nj := some 4) (Nk := some 5) #[true, true, true, true, true, true, true, true, true, true, false, false, false, false, false, false, false] #[true, true, true, true, true, true, true, true, true, false, false, false, false, true, false, false, false] #[true, true, true, true, true, true, true, true, true, false, false, false, false, false, true, false, false] rfl rfl rfl rfl rfl rfl (by kernel_rfl) (by decide) (by decide) (by decide) (fun K hK => ?_) (fun K hK => ?_) (fun K hK => ?_)
    · skip
      refine goes_ Try.func22 (by kernel_rfl) rfl #[.agg #[.int .i64 L.x0.f0, .int .i64 L.x0.f1, .int .i64 L.x0.f2, .slice A0 L.x0.f3.length c0, .int .i64 L.x0.f4], .string ps] (by rfl) rfl rfl (by simp only [List.map_toArray, List.map_cons, List.map_nil]; rfl) ?_
      with_reducible refine (link_Take.walk k L.x0.f0 L.x0.f1 L.x0.f2 A0 c0 L.x0.f3 L.x0.f4 ps R _ (HROW.out _ _ _ HC.out) HCAP.out HK.out).mono ?_
      rintro e wt ⟨vt, rfl, hv, hb⟩
      refine ⟨_, rfl, ?_⟩
      obtain ⟨A1, c1, rfl, _, _⟩ := link_Take.Out_open hv (HROW.out _ _ _ HC.out) HCAP.out hb
      replace HC := Aside0.mk (HC.out.call0 hb rfl hv)
      clear hv hb
      refine hK.out _ _ ⟨((blk_cell HC.out.bp 0).trans rfl), ((blk_cell HC.out.bp 1).trans rfl), ((blk_cell HC.out.blk 0).trans rfl), ((blk_cell HC.out.blk 1).trans rfl), ((blk_cell HC.out.blk 2).trans rfl), ((blk_cell HC.out.blk 3).trans rfl), ((blk_cell HC.out.blk 4).trans rfl)⟩ (fun hHeld => ?_)
      clear hK K
      refine norm_ (a' := ?_) ?_ ?_
      rotate_left
      · show Act.put _ (some 16) _ = _
        exact put_
      refine pure_ (i := 10) (N := some 6) (v := ?_) (a' := ?_) #[true, true, true, true, true, true, true, true, true, true, true, false, false, false, false, false, false] rfl rfl (by kernel_rfl) (fun _ _ _ h => h) (Or.inl ⟨by rfl, ?_⟩) ?_ ?_
      rotate_left
      · intro w'
        go_simp
        with_reducible rfl
      rotate_left
      · exact put_
      refine pure_ (i := 11) (N := some 17) (v := ?_) (a' := ?_) #[true, true, true, true, true, true, true, true, true, true, true, true, false, false, false, false, false] rfl rfl (by kernel_rfl) (fun _ _ _ h => h) (Or.inl ⟨by rfl, ?_⟩) ?_ ?_
      rotate_left
      · intro w'
        go_simp
        with_reducible rfl
      rotate_left
      · exact put_
      refine pure_ (i := 12) (N := some 18) (v := ?_) (a' := ?_) #[true, true, true, true, true, true, true, true, true, true, true, true, true, false, false, false, false] rfl rfl (by kernel_rfl) (fun _ _ _ h => h) (Or.inl ⟨by rfl, ?_⟩) ?_ ?_
      rotate_left
      · intro w'
        go_simp
        with_reducible rfl
      rotate_left
      · exact put_
      refine two_ (i := 13) (j := 14) (Ni := some 4) (Nj := some 5) #[true, true, true, true, true, true, true, true, true, true, true, true, true, true, false, false, false] #[true, true, true, true, true, true, true, true, true, true, true, true, true, false, true, false, false] rfl rfl rfl rfl (by kernel_rfl) (by decide) (by decide) (fun K hK => ?_) (fun K hK => ?_)
      · skip
        refine value_ (w1 := ?_) (v := ?_) (by rfl) rfl ?_ ?_
        rotate_left 2
        · go_simp
          constructor
          · rfl
          · rfl
        replace HC := Aside0.mk HC.out.allocY
        refine hK.out _ _ ⟨((blk_cell HC.out.bp 0).trans rfl), ((blk_cell HC.out.bp 1).trans rfl), ((blk_cell HC.out.blk 0).trans rfl), ((blk_cell HC.out.blk 1).trans rfl), ((blk_cell HC.out.blk 2).trans rfl), ((blk_cell HC.out.blk 3).trans rfl), ((blk_cell HC.out.blk 4).trans rfl)⟩ (fun hHeld => ?_)
        clear hK K
        refine norm_ (a' := ?_) ?_ ?_
        rotate_left
        · show Act.put _ (some 4) _ = _
          exact put_
        refine one_ (i := 14) (N := some 5) #[true, true, true, true, true, true, true, true, true, true, true, true, true, true, true, false, false] rfl rfl (by kernel_rfl) (by decide) (fun K hK => ?_)
        refine value_ (w1 := ?_) (v := ?_) (by rfl) rfl ?_ ?_
        rotate_left 2
        · go_simp
          constructor
          · rfl
          · rfl
        replace HC := Aside0.mk HC.out.allocC
        refine hK.out _ _ ⟨((blk_cell HC.out.bp 0).trans rfl), ((blk_cell HC.out.bp 1).trans rfl), ((blk_cell HC.out.blk 0).trans rfl), ((blk_cell HC.out.blk 1).trans rfl), ((blk_cell HC.out.blk 2).trans rfl), ((blk_cell HC.out.blk 3).trans rfl), ((blk_cell HC.out.blk 4).trans rfl)⟩ (fun hHeld => ?_)
        clear hK K
        refine norm_ (a' := ?_) ?_ ?_
        rotate_left
        · show Act.put _ (some 5) _ = _
          exact put_
        exact qendsc0_
      · skip
        refine value_ (w1 := ?_) (v := ?_) (by rfl) rfl ?_ ?_
        rotate_left 2
        · go_simp
          constructor
          · rfl
          · rfl
        replace HC := Aside0.mk HC.out.allocC
        refine hK.out _ _ ⟨((blk_cell HC.out.bp 0).trans rfl), ((blk_cell HC.out.bp 1).trans rfl), ((blk_cell HC.out.blk 0).trans rfl), ((blk_cell HC.out.blk 1).trans rfl), ((blk_cell HC.out.blk 2).trans rfl), ((blk_cell HC.out.blk 3).trans rfl), ((blk_cell HC.out.blk 4).trans rfl)⟩ (fun hHeld => ?_)
        clear hK K
        refine norm_ (a' := ?_) ?_ ?_
        rotate_left
        · show Act.put _ (some 5) _ = _
          exact put_
        refine one_ (i := 13) (N := some 4) #[true, true, true, true, true, true, true, true, true, true, true, true, true, true, true, false, false] rfl rfl (by kernel_rfl) (by decide) (fun K hK => ?_)
        refine value_ (w1 := ?_) (v := ?_) (by rfl) rfl ?_ ?_
        rotate_left 2
        · go_simp
          constructor
          · rfl
          · rfl
        replace HC := Aside0.mk HC.out.allocY
        refine hK.out _ _ ⟨((blk_cell HC.out.bp 0).trans rfl), ((blk_cell HC.out.bp 1).trans rfl), ((blk_cell HC.out.blk 0).trans rfl), ((blk_cell HC.out.blk 1).trans rfl), ((blk_cell HC.out.blk 2).trans rfl), ((blk_cell HC.out.blk 3).trans rfl), ((blk_cell HC.out.blk 4).trans rfl)⟩ (fun hHeld => ?_)
        clear hK K
        refine norm_ (a' := ?_) ?_ ?_
        rotate_left
        · show Act.put _ (some 4) _ = _
          exact put_
        exact qendsc0_
    · skip
      refine value_ (w1 := ?_) (v := ?_) (by rfl) rfl ?_ ?_
      rotate_left 2
      · go_simp
        constructor
        · rfl
        · rfl
      replace HC := Aside0.mk HC.out.allocY
      refine hK.out _ _ ⟨((blk_cell HC.out.bp 0).trans rfl), ((blk_cell HC.out.bp 1).trans rfl), ((blk_cell HC.out.blk 0).trans rfl), ((blk_cell HC.out.blk 1).trans rfl), ((blk_cell HC.out.blk 2).trans rfl), ((blk_cell HC.out.blk 3).trans rfl), ((blk_cell HC.out.blk 4).trans rfl)⟩ (fun hHeld => ?_)
      clear hK K
      refine norm_ (a' := ?_) ?_ ?_
      rotate_left
      · show Act.put _ (some 4) _ = _
        exact put_
      refine two_ (i := 9) (j := 14) (Ni := some 16) (Nj := some 5) #[true, true, true, true, true, true, true, true, true, true, false, false, false, true, false, false, false] #[true, true, true, true, true, true, true, true, true, false, false, false, false, true, true, false, false] rfl rfl rfl rfl (by kernel_rfl) (by decide) (by decide) (fun K hK => ?_) (fun K hK => ?_)
      · skip
        refine goes_ Try.func22 (by kernel_rfl) rfl #[.agg #[.int .i64 L.x0.f0, .int .i64 L.x0.f1, .int .i64 L.x0.f2, .slice A0 L.x0.f3.length c0, .int .i64 L.x0.f4], .string ps] (by rfl) rfl rfl (by simp only [List.map_toArray, List.map_cons, List.map_nil]; rfl) ?_
        with_reducible refine (link_Take.walk k L.x0.f0 L.x0.f1 L.x0.f2 A0 c0 L.x0.f3 L.x0.f4 ps R _ (HROW.out _ _ _ HC.out) HCAP.out HK.out).mono ?_
        rintro e wt ⟨vt, rfl, hv, hb⟩
        refine ⟨_, rfl, ?_⟩
        obtain ⟨A1, c1, rfl, _, _⟩ := link_Take.Out_open hv (HROW.out _ _ _ HC.out) HCAP.out hb
        replace HC := Aside0.mk (HC.out.call0 hb rfl hv)
        clear hv hb
        refine hK.out _ _ ⟨((blk_cell HC.out.bp 0).trans rfl), ((blk_cell HC.out.bp 1).trans rfl), ((blk_cell HC.out.blk 0).trans rfl), ((blk_cell HC.out.blk 1).trans rfl), ((blk_cell HC.out.blk 2).trans rfl), ((blk_cell HC.out.blk 3).trans rfl), ((blk_cell HC.out.blk 4).trans rfl)⟩ (fun hHeld => ?_)
        clear hK K
        refine norm_ (a' := ?_) ?_ ?_
        rotate_left
        · show Act.put _ (some 16) _ = _
          exact put_
        refine pure_ (i := 10) (N := some 6) (v := ?_) (a' := ?_) #[true, true, true, true, true, true, true, true, true, true, true, false, false, true, false, false, false] rfl rfl (by kernel_rfl) (fun _ _ _ h => h) (Or.inl ⟨by rfl, ?_⟩) ?_ ?_
        rotate_left
        · intro w'
          go_simp
          with_reducible rfl
        rotate_left
        · exact put_
        refine pure_ (i := 11) (N := some 17) (v := ?_) (a' := ?_) #[true, true, true, true, true, true, true, true, true, true, true, true, false, true, false, false, false] rfl rfl (by kernel_rfl) (fun _ _ _ h => h) (Or.inl ⟨by rfl, ?_⟩) ?_ ?_
        rotate_left
        · intro w'
          go_simp
          with_reducible rfl
        rotate_left
        · exact put_
        refine pure_ (i := 12) (N := some 18) (v := ?_) (a' := ?_) #[true, true, true, true, true, true, true, true, true, true, true, true, true, true, false, false, false] rfl rfl (by kernel_rfl) (fun _ _ _ h => h) (Or.inl ⟨by rfl, ?_⟩) ?_ ?_
        rotate_left
        · intro w'
          go_simp
          with_reducible rfl
        rotate_left
        · exact put_
        refine one_ (i := 14) (N := some 5) #[true, true, true, true, true, true, true, true, true, true, true, true, true, true, true, false, false] rfl rfl (by kernel_rfl) (by decide) (fun K hK => ?_)
        refine value_ (w1 := ?_) (v := ?_) (by rfl) rfl ?_ ?_
        rotate_left 2
        · go_simp
          constructor
          · rfl
          · rfl
        replace HC := Aside0.mk HC.out.allocC
        refine hK.out _ _ ⟨((blk_cell HC.out.bp 0).trans rfl), ((blk_cell HC.out.bp 1).trans rfl), ((blk_cell HC.out.blk 0).trans rfl), ((blk_cell HC.out.blk 1).trans rfl), ((blk_cell HC.out.blk 2).trans rfl), ((blk_cell HC.out.blk 3).trans rfl), ((blk_cell HC.out.blk 4).trans rfl)⟩ (fun hHeld => ?_)
        clear hK K
        refine norm_ (a' := ?_) ?_ ?_
        rotate_left
        · show Act.put _ (some 5) _ = _
          exact put_
        exact qendsc0_
      · skip
        refine value_ (w1 := ?_) (v := ?_) (by rfl) rfl ?_ ?_
        rotate_left 2
        · go_simp
          constructor
          · rfl
          · rfl
        replace HC := Aside0.mk HC.out.allocC
        refine hK.out _ _ ⟨((blk_cell HC.out.bp 0).trans rfl), ((blk_cell HC.out.bp 1).trans rfl), ((blk_cell HC.out.blk 0).trans rfl), ((blk_cell HC.out.blk 1).trans rfl), ((blk_cell HC.out.blk 2).trans rfl), ((blk_cell HC.out.blk 3).trans rfl), ((blk_cell HC.out.blk 4).trans rfl)⟩ (fun hHeld => ?_)
        clear hK K
        refine norm_ (a' := ?_) ?_ ?_
        rotate_left
        · show Act.put _ (some 5) _ = _
          exact put_
        refine one_ (i := 9) (N := some 16) #[true, true, true, true, true, true, true, true, true, true, false, false, false, true, true, false, false] rfl rfl (by kernel_rfl) (by decide) (fun K hK => ?_)
        refine goes_ Try.func22 (by kernel_rfl) rfl #[.agg #[.int .i64 L.x0.f0, .int .i64 L.x0.f1, .int .i64 L.x0.f2, .slice A0 L.x0.f3.length c0, .int .i64 L.x0.f4], .string ps] (by rfl) rfl rfl (by simp only [List.map_toArray, List.map_cons, List.map_nil]; rfl) ?_
        with_reducible refine (link_Take.walk k L.x0.f0 L.x0.f1 L.x0.f2 A0 c0 L.x0.f3 L.x0.f4 ps R _ (HROW.out _ _ _ HC.out) HCAP.out HK.out).mono ?_
        rintro e wt ⟨vt, rfl, hv, hb⟩
        refine ⟨_, rfl, ?_⟩
        obtain ⟨A1, c1, rfl, _, _⟩ := link_Take.Out_open hv (HROW.out _ _ _ HC.out) HCAP.out hb
        replace HC := Aside0.mk (HC.out.call0 hb rfl hv)
        clear hv hb
        refine hK.out _ _ ⟨((blk_cell HC.out.bp 0).trans rfl), ((blk_cell HC.out.bp 1).trans rfl), ((blk_cell HC.out.blk 0).trans rfl), ((blk_cell HC.out.blk 1).trans rfl), ((blk_cell HC.out.blk 2).trans rfl), ((blk_cell HC.out.blk 3).trans rfl), ((blk_cell HC.out.blk 4).trans rfl)⟩ (fun hHeld => ?_)
        clear hK K
        refine norm_ (a' := ?_) ?_ ?_
        rotate_left
        · show Act.put _ (some 16) _ = _
          exact put_
        refine pure_ (i := 10) (N := some 6) (v := ?_) (a' := ?_) #[true, true, true, true, true, true, true, true, true, true, true, false, false, true, true, false, false] rfl rfl (by kernel_rfl) (fun _ _ _ h => h) (Or.inl ⟨by rfl, ?_⟩) ?_ ?_
        rotate_left
        · intro w'
          go_simp
          with_reducible rfl
        rotate_left
        · exact put_
        refine pure_ (i := 11) (N := some 17) (v := ?_) (a' := ?_) #[true, true, true, true, true, true, true, true, true, true, true, true, false, true, true, false, false] rfl rfl (by kernel_rfl) (fun _ _ _ h => h) (Or.inl ⟨by rfl, ?_⟩) ?_ ?_
        rotate_left
        · intro w'
          go_simp
          with_reducible rfl
        rotate_left
        · exact put_
        refine pure_ (i := 12) (N := some 18) (v := ?_) (a' := ?_) #[true, true, true, true, true, true, true, true, true, true, true, true, true, true, true, false, false] rfl rfl (by kernel_rfl) (fun _ _ _ h => h) (Or.inl ⟨by rfl, ?_⟩) ?_ ?_
        rotate_left
        · intro w'
          go_simp
          with_reducible rfl
        rotate_left
        · exact put_
        exact qendsc0_
    · skip
      refine value_ (w1 := ?_) (v := ?_) (by rfl) rfl ?_ ?_
      rotate_left 2
      · go_simp
        constructor
        · rfl
        · rfl
      replace HC := Aside0.mk HC.out.allocC
      refine hK.out _ _ ⟨((blk_cell HC.out.bp 0).trans rfl), ((blk_cell HC.out.bp 1).trans rfl), ((blk_cell HC.out.blk 0).trans rfl), ((blk_cell HC.out.blk 1).trans rfl), ((blk_cell HC.out.blk 2).trans rfl), ((blk_cell HC.out.blk 3).trans rfl), ((blk_cell HC.out.blk 4).trans rfl)⟩ (fun hHeld => ?_)
      clear hK K
      refine norm_ (a' := ?_) ?_ ?_
      rotate_left
      · show Act.put _ (some 5) _ = _
        exact put_
      refine two_ (i := 9) (j := 13) (Ni := some 16) (Nj := some 4) #[true, true, true, true, true, true, true, true, true, true, false, false, false, false, true, false, false] #[true, true, true, true, true, true, true, true, true, false, false, false, false, true, true, false, false] rfl rfl rfl rfl (by kernel_rfl) (by decide) (by decide) (fun K hK => ?_) (fun K hK => ?_)
      · skip
        refine goes_ Try.func22 (by kernel_rfl) rfl #[.agg #[.int .i64 L.x0.f0, .int .i64 L.x0.f1, .int .i64 L.x0.f2, .slice A0 L.x0.f3.length c0, .int .i64 L.x0.f4], .string ps] (by rfl) rfl rfl (by simp only [List.map_toArray, List.map_cons, List.map_nil]; rfl) ?_
        with_reducible refine (link_Take.walk k L.x0.f0 L.x0.f1 L.x0.f2 A0 c0 L.x0.f3 L.x0.f4 ps R _ (HROW.out _ _ _ HC.out) HCAP.out HK.out).mono ?_
        rintro e wt ⟨vt, rfl, hv, hb⟩
        refine ⟨_, rfl, ?_⟩
        obtain ⟨A1, c1, rfl, _, _⟩ := link_Take.Out_open hv (HROW.out _ _ _ HC.out) HCAP.out hb
        replace HC := Aside0.mk (HC.out.call0 hb rfl hv)
        clear hv hb
        refine hK.out _ _ ⟨((blk_cell HC.out.bp 0).trans rfl), ((blk_cell HC.out.bp 1).trans rfl), ((blk_cell HC.out.blk 0).trans rfl), ((blk_cell HC.out.blk 1).trans rfl), ((blk_cell HC.out.blk 2).trans rfl), ((blk_cell HC.out.blk 3).trans rfl), ((blk_cell HC.out.blk 4).trans rfl)⟩ (fun hHeld => ?_)
        clear hK K
        refine norm_ (a' := ?_) ?_ ?_
        rotate_left
        · show Act.put _ (some 16) _ = _
          exact put_
        refine pure_ (i := 10) (N := some 6) (v := ?_) (a' := ?_) #[true, true, true, true, true, true, true, true, true, true, true, false, false, false, true, false, false] rfl rfl (by kernel_rfl) (fun _ _ _ h => h) (Or.inl ⟨by rfl, ?_⟩) ?_ ?_
        rotate_left
        · intro w'
          go_simp
          with_reducible rfl
        rotate_left
        · exact put_
        refine pure_ (i := 11) (N := some 17) (v := ?_) (a' := ?_) #[true, true, true, true, true, true, true, true, true, true, true, true, false, false, true, false, false] rfl rfl (by kernel_rfl) (fun _ _ _ h => h) (Or.inl ⟨by rfl, ?_⟩) ?_ ?_
        rotate_left
        · intro w'
          go_simp
          with_reducible rfl
        rotate_left
        · exact put_
        refine pure_ (i := 12) (N := some 18) (v := ?_) (a' := ?_) #[true, true, true, true, true, true, true, true, true, true, true, true, true, false, true, false, false] rfl rfl (by kernel_rfl) (fun _ _ _ h => h) (Or.inl ⟨by rfl, ?_⟩) ?_ ?_
        rotate_left
        · intro w'
          go_simp
          with_reducible rfl
        rotate_left
        · exact put_
        refine one_ (i := 13) (N := some 4) #[true, true, true, true, true, true, true, true, true, true, true, true, true, true, true, false, false] rfl rfl (by kernel_rfl) (by decide) (fun K hK => ?_)
        refine value_ (w1 := ?_) (v := ?_) (by rfl) rfl ?_ ?_
        rotate_left 2
        · go_simp
          constructor
          · rfl
          · rfl
        replace HC := Aside0.mk HC.out.allocY
        refine hK.out _ _ ⟨((blk_cell HC.out.bp 0).trans rfl), ((blk_cell HC.out.bp 1).trans rfl), ((blk_cell HC.out.blk 0).trans rfl), ((blk_cell HC.out.blk 1).trans rfl), ((blk_cell HC.out.blk 2).trans rfl), ((blk_cell HC.out.blk 3).trans rfl), ((blk_cell HC.out.blk 4).trans rfl)⟩ (fun hHeld => ?_)
        clear hK K
        refine norm_ (a' := ?_) ?_ ?_
        rotate_left
        · show Act.put _ (some 4) _ = _
          exact put_
        exact qendsc0_
      · skip
        refine value_ (w1 := ?_) (v := ?_) (by rfl) rfl ?_ ?_
        rotate_left 2
        · go_simp
          constructor
          · rfl
          · rfl
        replace HC := Aside0.mk HC.out.allocY
        refine hK.out _ _ ⟨((blk_cell HC.out.bp 0).trans rfl), ((blk_cell HC.out.bp 1).trans rfl), ((blk_cell HC.out.blk 0).trans rfl), ((blk_cell HC.out.blk 1).trans rfl), ((blk_cell HC.out.blk 2).trans rfl), ((blk_cell HC.out.blk 3).trans rfl), ((blk_cell HC.out.blk 4).trans rfl)⟩ (fun hHeld => ?_)
        clear hK K
        refine norm_ (a' := ?_) ?_ ?_
        rotate_left
        · show Act.put _ (some 4) _ = _
          exact put_
        refine one_ (i := 9) (N := some 16) #[true, true, true, true, true, true, true, true, true, true, false, false, false, true, true, false, false] rfl rfl (by kernel_rfl) (by decide) (fun K hK => ?_)
        refine goes_ Try.func22 (by kernel_rfl) rfl #[.agg #[.int .i64 L.x0.f0, .int .i64 L.x0.f1, .int .i64 L.x0.f2, .slice A0 L.x0.f3.length c0, .int .i64 L.x0.f4], .string ps] (by rfl) rfl rfl (by simp only [List.map_toArray, List.map_cons, List.map_nil]; rfl) ?_
        with_reducible refine (link_Take.walk k L.x0.f0 L.x0.f1 L.x0.f2 A0 c0 L.x0.f3 L.x0.f4 ps R _ (HROW.out _ _ _ HC.out) HCAP.out HK.out).mono ?_
        rintro e wt ⟨vt, rfl, hv, hb⟩
        refine ⟨_, rfl, ?_⟩
        obtain ⟨A1, c1, rfl, _, _⟩ := link_Take.Out_open hv (HROW.out _ _ _ HC.out) HCAP.out hb
        replace HC := Aside0.mk (HC.out.call0 hb rfl hv)
        clear hv hb
        refine hK.out _ _ ⟨((blk_cell HC.out.bp 0).trans rfl), ((blk_cell HC.out.bp 1).trans rfl), ((blk_cell HC.out.blk 0).trans rfl), ((blk_cell HC.out.blk 1).trans rfl), ((blk_cell HC.out.blk 2).trans rfl), ((blk_cell HC.out.blk 3).trans rfl), ((blk_cell HC.out.blk 4).trans rfl)⟩ (fun hHeld => ?_)
        clear hK K
        refine norm_ (a' := ?_) ?_ ?_
        rotate_left
        · show Act.put _ (some 16) _ = _
          exact put_
        refine pure_ (i := 10) (N := some 6) (v := ?_) (a' := ?_) #[true, true, true, true, true, true, true, true, true, true, true, false, false, true, true, false, false] rfl rfl (by kernel_rfl) (fun _ _ _ h => h) (Or.inl ⟨by rfl, ?_⟩) ?_ ?_
        rotate_left
        · intro w'
          go_simp
          with_reducible rfl
        rotate_left
        · exact put_
        refine pure_ (i := 11) (N := some 17) (v := ?_) (a' := ?_) #[true, true, true, true, true, true, true, true, true, true, true, true, false, true, true, false, false] rfl rfl (by kernel_rfl) (fun _ _ _ h => h) (Or.inl ⟨by rfl, ?_⟩) ?_ ?_
        rotate_left
        · intro w'
          go_simp
          with_reducible rfl
        rotate_left
        · exact put_
        refine pure_ (i := 12) (N := some 18) (v := ?_) (a' := ?_) #[true, true, true, true, true, true, true, true, true, true, true, true, true, true, true, false, false] rfl rfl (by kernel_rfl) (fun _ _ _ h => h) (Or.inl ⟨by rfl, ?_⟩) ?_ ?_
        rotate_left
        · intro w'
          go_simp
          with_reducible rfl
        rotate_left
        · exact put_
        exact qendsc0_
  rintro ⟨gy, gc, A1, c1⟩ w4 hci
  have HC4 := Aside0.mk hci
  clear hci
  have hHeld : w4.cell? ⟨gp, 0, none⟩ = some (.int .i64 0) ∧ w4.cell? ⟨gp, 1, none⟩ = some (.string ps) ∧ w4.cell? ⟨g, 0, none⟩ = some (.int .i64 L.x0.f0) ∧ w4.cell? ⟨g, 1, none⟩ = some (.int .i64 L.x0.f1) ∧ w4.cell? ⟨g, 2, none⟩ = some (.int .i64 L.x0.f2) ∧ w4.cell? ⟨g, 3, none⟩ = some (.slice A0 L.x0.f3.length c0) ∧ w4.cell? ⟨g, 4, none⟩ = some (.int .i64 L.x0.f4) := ⟨((blk_cell HC4.out.bp 0).trans rfl), ((blk_cell HC4.out.bp 1).trans rfl), ((blk_cell HC4.out.blk 0).trans rfl), ((blk_cell HC4.out.blk 1).trans rfl), ((blk_cell HC4.out.blk 2).trans rfl), ((blk_cell HC4.out.blk 3).trans rfl), ((blk_cell HC4.out.blk 4).trans rfl)⟩
  refine norm_ (a' := ?_) ?_ ?_
  rotate_left
  · simp only [putAll, Act.put, List.setIfInBounds_toArray, List.set_cons_zero, List.set_cons_succ]
    rfl
  refine last_ (i := 15) (N := none) #[true, true, true, true, true, true, true, true, true, true, true, true, true, true, true, true, false] rfl rfl (by kernel_rfl) (by decide) (fun K hK => ?_)
  have HD := Aside0.mk (DI.of HC4.out (HC4.out.ly _ rfl) (HC4.out.lc _ rfl))
  clear HC4 HC
  have a0 : w4.cell? ⟨gy, 0, none⟩ = some (.int .i64 0) := (blk_cell HD.out.ye 0).trans rfl
  have a1 : w4.cell? ⟨gy, 1, none⟩ = some (.int .i64 0) := (blk_cell HD.out.ye 1).trans rfl
  have a2 : w4.cell? ⟨gy, 2, none⟩ = some (.int .i64 0) := (blk_cell HD.out.ye 2).trans rfl
  have a3 : w4.cell? ⟨gy, 3, none⟩ = some (.slice none 0 0) := (blk_cell HD.out.ye 3).trans rfl
  have a4 : w4.cell? ⟨gy, 4, none⟩ = some (.int .i64 0) := (blk_cell HD.out.ye 4).trans rfl
  have b0 : w4.frozen? ⟨gy, 0, none⟩ = false := blk_frozen HD.out.ye 0
  have b1 : w4.frozen? ⟨gy, 1, none⟩ = false := blk_frozen HD.out.ye 1
  have b2 : w4.frozen? ⟨gy, 2, none⟩ = false := blk_frozen HD.out.ye 2
  have b3 : w4.frozen? ⟨gy, 3, none⟩ = false := blk_frozen HD.out.ye 3
  have b4 : w4.frozen? ⟨gy, 4, none⟩ = false := blk_frozen HD.out.ye 4
  refine skip_ (w1 := ?_) (by rfl) rfl ?_ ?_
  rotate_left
  · go_simp
    rfl
  refine hK.out _ _ ?_
  clear hK K
  refine last_ (i := 16) (N := none) #[true, true, true, true, true, true, true, true, true, true, true, true, true, true, true, true, true] rfl rfl (by kernel_rfl) (by decide) (fun K hK => ?_)
  clear a0 a1 a2 a3 a4 b0 b1 b2 b3 b4
  replace HD := Aside0.mk (((((HD.out.setY (by decide) 0 (.int .i64 L.x0.f0) rfl).setY (by decide) 1 (.int .i64 R.o) rfl).setY (by decide) 2 (.int .i64 R.f) rfl).setY (by decide) 3 (.slice A1 R.l.length c1) rfl).setY (by decide) 4 (.int .i64 R.w) rfl)
  generalize (((((w4.setCell { block := gy, off := 0 } (Value.int .i64 L.x0.f0)).setCell { block := gy, off := 1 } (Value.int .i64 R.o)).setCell { block := gy, off := 2 } (Value.int .i64 R.f)).setCell { block := gy, off := 3 } (Value.slice A1 R.l.length c1)).setCell { block := gy, off := 4 } (Value.int .i64 R.w)) = w5 at HD ⊢
  have a0 : w5.cell? ⟨gc, 0, none⟩ = some (.string ⟨#[]⟩) := (blk_cell HD.out.ce 0).trans rfl
  have a1 : w5.cell? ⟨gc, 1, none⟩ = some (.bool false) := (blk_cell HD.out.ce 1).trans rfl
  have a2 : w5.cell? ⟨gc, 2, none⟩ = some (.string ⟨#[]⟩) := (blk_cell HD.out.ce 2).trans rfl
  have a3 : w5.cell? ⟨gc, 3, none⟩ = some (.bool false) := (blk_cell HD.out.ce 3).trans rfl
  have b0 : w5.frozen? ⟨gc, 0, none⟩ = false := blk_frozen HD.out.ce 0
  have b1 : w5.frozen? ⟨gc, 1, none⟩ = false := blk_frozen HD.out.ce 1
  have b2 : w5.frozen? ⟨gc, 2, none⟩ = false := blk_frozen HD.out.ce 2
  have b3 : w5.frozen? ⟨gc, 3, none⟩ = false := blk_frozen HD.out.ce 3
  refine skip_ (w1 := ?_) (by rfl) rfl ?_ ?_
  rotate_left
  · go_simp
    rfl
  refine hK.out _ _ ?_
  clear hK K
  refine done_ (by kernel_rfl) ?_
  clear a0 a1 a2 a3 b0 b1 b2 b3
  replace HD := Aside0.mk ((((HD.out.setC (by decide) 0 (.string R.s) rfl).setC (by decide) 1 (.bool R.has) rfl).setC (by decide) 2 (.string R.reply) rfl).setC (by decide) 3 (.bool R.anew) rfl)
  generalize ((((w5.setCell { block := gc, off := 0 } (Value.string R.s)).setCell { block := gc, off := 1 } (Value.bool R.has)).setCell { block := gc, off := 2 } (Value.string R.reply)).setCell { block := gc, off := 3 } (Value.bool R.anew)) = w6 at HD ⊢
  go_upto_region 2 with (fail)
  replace HD := Aside0.mk HD.out.drew
  refine start_ (n := 8) (S := fun w' => w'.cell? ⟨gp, 0, none⟩ = some (.int .i64 0) ∧ w'.cell? ⟨gy, 0, none⟩ = some (.int .i64 L.x0.f0) ∧ w'.cell? ⟨gy, 1, none⟩ = some (.int .i64 R.o) ∧ w'.cell? ⟨gy, 2, none⟩ = some (.int .i64 R.f) ∧ w'.cell? ⟨gy, 3, none⟩ = some (.slice A1 R.l.length c1) ∧ w'.cell? ⟨gy, 4, none⟩ = some (.int .i64 R.w)) (ds := [7]) #[false, false, false, false, false, false, false, false] (by kernel_rfl) rfl rfl ⟨((blk_cell HD.out.bp 0).trans rfl), ((blk_cell HD.out.ye 0).trans rfl), ((blk_cell HD.out.ye 1).trans rfl), ((blk_cell HD.out.ye 2).trans rfl), ((blk_cell HD.out.ye 3).trans rfl), ((blk_cell HD.out.ye 4).trans rfl)⟩ (fun hHeld => ?_)
  generalize World.drew w6 = V at HD hHeld ⊢
  refine pure_ (i := 0) (N := some 19) (v := ?_) (a' := ?_) #[true, false, false, false, false, false, false, false] rfl rfl (by kernel_rfl) (fun _ _ _ h => h) (Or.inl ⟨by rfl, ?_⟩) ?_ ?_
  rotate_left
  · intro w'
    go_simp
    with_reducible rfl
  rotate_left
  · exact put_
  refine pure_ (i := 1) (N := some 20) (v := ?_) (a' := ?_) #[true, true, false, false, false, false, false, false] rfl rfl (by kernel_rfl) (fun _ _ _ h => h) (Or.inl ⟨by rfl, ?_⟩) ?_ ?_
  rotate_left
  · intro w'
    go_simp
    with_reducible rfl
  rotate_left
  · exact put_
  refine pure_ (i := 4) (N := some 23) (v := ?_) (a' := ?_) #[true, true, false, false, true, false, false, false] rfl rfl (by kernel_rfl) (fun _ _ _ h => h) (Or.inl ⟨by rfl, ?_⟩) ?_ ?_
  rotate_left
  · intro w'
    go_simp
    with_reducible rfl
  rotate_left
  · exact put_
  refine pure_ (i := 5) (N := some 24) (v := ?_) (a' := ?_) #[true, true, false, false, true, true, false, false] rfl rfl (by kernel_rfl) (fun _ _ _ h => h) (Or.inl ⟨by rfl, ?_⟩) ?_ ?_
  rotate_left
  · intro w'
    go_simp
    with_reducible rfl
  rotate_left
  · exact put_
  refine take_ (i := 2) (N := some 21) (v := ?_) (a' := ?_) #[true, true, true, false, true, true, false, false] rfl rfl (by kernel_rfl) (fun _ _ _ h => h) (Or.inl ⟨by rfl, ?_⟩) hHeld ?_ ?_
  rotate_left
  · rintro w' ⟨s0, s1, s2, s3, s4, s5⟩
    go_simp
    with_reducible rfl
  rotate_left
  · exact put_
  refine take_ (i := 3) (N := some 22) (v := ?_) (a' := ?_) #[true, true, true, true, true, true, false, false] rfl rfl (by kernel_rfl) (fun _ _ _ h => h) (Or.inl ⟨by rfl, ?_⟩) hHeld ?_ ?_
  rotate_left
  · rintro w' ⟨s0, s1, s2, s3, s4, s5⟩
    go_simp
    with_reducible rfl
  rotate_left
  · exact put_
  refine pure_ (i := 6) (N := some 25) (v := ?_) (a' := ?_) #[true, true, true, true, true, true, true, false] rfl rfl (by kernel_rfl) (fun _ _ _ h => h) (Or.inl ⟨by rfl, ?_⟩) ?_ ?_
  rotate_left
  · intro w'
    go_simp
    with_reducible rfl
  rotate_left
  · exact put_
  refine last_ (i := 7) (N := none) #[true, true, true, true, true, true, true, true] rfl rfl (by kernel_rfl) (by decide) (fun K hK => ?_)
  have a0 : V.cell? ⟨g, 0, none⟩ = some (.int .i64 L.x0.f0) := (blk_cell HD.out.blk 0).trans rfl
  have a1 : V.cell? ⟨g, 1, none⟩ = some (.int .i64 L.x0.f1) := (blk_cell HD.out.blk 1).trans rfl
  have a2 : V.cell? ⟨g, 2, none⟩ = some (.int .i64 L.x0.f2) := (blk_cell HD.out.blk 2).trans rfl
  have a3 : V.cell? ⟨g, 3, none⟩ = some (.slice A0 L.x0.f3.length c0) := (blk_cell HD.out.blk 3).trans rfl
  have a4 : V.cell? ⟨g, 4, none⟩ = some (.int .i64 L.x0.f4) := (blk_cell HD.out.blk 4).trans rfl
  have b0 : V.frozen? ⟨g, 0, none⟩ = false := blk_frozen HD.out.blk 0
  have b1 : V.frozen? ⟨g, 1, none⟩ = false := blk_frozen HD.out.blk 1
  have b2 : V.frozen? ⟨g, 2, none⟩ = false := blk_frozen HD.out.blk 2
  have b3 : V.frozen? ⟨g, 3, none⟩ = false := blk_frozen HD.out.blk 3
  have b4 : V.frozen? ⟨g, 4, none⟩ = false := blk_frozen HD.out.blk 4
  refine skip_ (w1 := ?_) (by rfl) rfl ?_ ?_
  rotate_left
  · go_simp
    rfl
  refine hK.out _ _ ?_
  clear hK K
  refine done_ (by kernel_rfl) ?_
  clear a0 a1 a2 a3 a4 b0 b1 b2 b3 b4
  replace HD := Aside0.mk (HD.out.setX0 (⟨L.x0.f0, R.o, R.f, R.l, R.w⟩ : S24) rfl)
  generalize (((((V.setCell { block := g, off := 0 } (Value.int .i64 L.x0.f0)).setCell { block := g, off := 1 } (Value.int .i64 R.o)).setCell { block := g, off := 2 } (Value.int .i64 R.f)).setCell { block := g, off := 3 } (Value.slice A1 R.l.length c1)).setCell { block := g, off := 4 } (Value.int .i64 R.w)) = w7 at HD ⊢
  cases hq : R.has with
  | false =>
    have y1 : w7.cell? ⟨gc, 1, none⟩ = some (.bool false) := by rw [← hq]; exact (blk_cell HD.out.ce 1).trans rfl
    obtain ⟨ff, hev, _⟩ := HD.out.ev
    have HE7 : Aside0 (Ends b w7 g { L with x0 := (⟨L.x0.f0, R.o, R.f, R.l, R.w⟩ : S24) }) := ⟨⟨ff, _, _, _, _, _, _, _, hev⟩⟩
    have HQ := Aside0.mk hq
    clear hev hq
    have y0 : w7.cell? ⟨gp, 0, none⟩ = some (.int .i64 0) := (blk_cell HD.out.bp 0).trans rfl
    have y2 : w7.cell? ⟨gc, 2, none⟩ = some (.string R.reply) := (blk_cell HD.out.ce 2).trans rfl
    have z0 : wrap64 (1 - 0) = 1 := by unfold wrap64; omega
    go_wp2_with fail
    (with_reducible refine (ends_send.calls b g _ (⟨1, R.reply, false⟩ : S65) _ HE7.out HD.out.hs).mono ?_)
    rintro e wz ⟨rfl, hez, hbz⟩
    go_wp2
    refine bodyPost_end (results_none rfl _ _ _) rfl ?_
    exact ⟨rfl, by unfold LS.comes0; rw [if_neg (by rw [HQ.out]; decide)]; exact hez, (HD.out.hb).trans hbz⟩
  | true =>
    have y1 : w7.cell? ⟨gc, 1, none⟩ = some (.bool true) := by rw [← hq]; exact (blk_cell HD.out.ce 1).trans rfl
    have HQ := Aside0.mk hq
    clear hq
    go_upto_region 4 with (fail)
    replace HD := Aside0.mk HD.out.drew
    clear y1
    obtain ⟨ff, hev, hfp, _, hfc, _⟩ := HD.out.ev
    have HEV := Aside0.mk hev
    have HF := Aside0.mk (And.intro hfp hfc)
    clear hev hfp hfc
    refine start_ (n := 18) (S := fun w' => w'.cell? ⟨gp, 0, none⟩ = some (.int .i64 0) ∧ w'.cell? ⟨g, 13, none⟩ = some (.slice Ar L.c0.length cr) ∧ w'.cell? ⟨gc, 0, none⟩ = some (.string R.s)) (ds := [17]) #[false, false, false, false, false, false, false, false, false, false, false, false, false, false, false, false, false, false] (by kernel_rfl) rfl rfl ⟨((blk_cell HD.out.bp 0).trans rfl), ((blk_cell HD.out.blk 13).trans rfl), ((blk_cell HD.out.ce 0).trans rfl)⟩ (fun hHeld => ?_)
    generalize World.drew w7 = V at HD HEV hHeld ⊢
    refine pure_ (i := 0) (N := some 28) (v := ?_) (a' := ?_) #[true, false, false, false, false, false, false, false, false, false, false, false, false, false, false, false, false, false] rfl rfl (by kernel_rfl) (fun _ _ _ h => h) (Or.inl ⟨by rfl, ?_⟩) ?_ ?_
    rotate_left
    · intro w'
      go_simp
      with_reducible rfl
    rotate_left
    · exact put_
    refine pure_ (i := 1) (N := some 29) (v := ?_) (a' := ?_) #[true, true, false, false, false, false, false, false, false, false, false, false, false, false, false, false, false, false] rfl rfl (by kernel_rfl) (fun _ _ _ h => h) (Or.inl ⟨by rfl, ?_⟩) ?_ ?_
    rotate_left
    · intro w'
      go_simp
      with_reducible rfl
    rotate_left
    · exact put_
    refine pure_ (i := 3) (N := some 31) (v := ?_) (a' := ?_) #[true, true, false, true, false, false, false, false, false, false, false, false, false, false, false, false, false, false] rfl rfl (by kernel_rfl) (fun _ _ _ h => h) (Or.inl ⟨by rfl, ?_⟩) ?_ ?_
    rotate_left
    · intro w'
      go_simp
      with_reducible rfl
    rotate_left
    · exact put_
    refine pure_ (i := 4) (N := some 32) (v := ?_) (a' := ?_) #[true, true, false, true, true, false, false, false, false, false, false, false, false, false, false, false, false, false] rfl rfl (by kernel_rfl) (fun _ _ _ h => h) (Or.inl ⟨by rfl, ?_⟩) ?_ ?_
    rotate_left
    · intro w'
      go_simp
      with_reducible rfl
    rotate_left
    · exact put_
    refine pure_ (i := 6) (N := some 34) (v := ?_) (a' := ?_) #[true, true, false, true, true, false, true, false, false, false, false, false, false, false, false, false, false, false] rfl rfl (by kernel_rfl) (fun _ _ _ h => h) (Or.inl ⟨by rfl, ?_⟩) ?_ ?_
    rotate_left
    · intro w'
      go_simp
      with_reducible rfl
    rotate_left
    · exact put_
    refine pure_ (i := 7) (N := some 35) (v := ?_) (a' := ?_) #[true, true, false, true, true, false, true, true, false, false, false, false, false, false, false, false, false, false] rfl rfl (by kernel_rfl) (fun _ _ _ h => h) (Or.inl ⟨by rfl, ?_⟩) ?_ ?_
    rotate_left
    · intro w'
      go_simp
      with_reducible rfl
    rotate_left
    · exact put_
    refine pure_ (i := 10) (N := some 38) (v := ?_) (a' := ?_) #[true, true, false, true, true, false, true, true, false, false, true, false, false, false, false, false, false, false] rfl rfl (by kernel_rfl) (fun _ _ _ h => h) (Or.inl ⟨by rfl, ?_⟩) ?_ ?_
    rotate_left
    · intro w'
      go_simp
      with_reducible rfl
    rotate_left
    · exact put_
    refine pure_ (i := 14) (N := some 42) (v := ?_) (a' := ?_) #[true, true, false, true, true, false, true, true, false, false, true, false, false, false, true, false, false, false] rfl rfl (by kernel_rfl) (fun _ _ _ h => h) (Or.inl ⟨by rfl, ?_⟩) ?_ ?_
    rotate_left
    · intro w'
      go_simp
      with_reducible rfl
    rotate_left
    · exact put_
    refine pure_ (i := 15) (N := some 43) (v := ?_) (a' := ?_) #[true, true, false, true, true, false, true, true, false, false, true, false, false, false, true, true, false, false] rfl rfl (by kernel_rfl) (fun _ _ _ h => h) (Or.inl ⟨by rfl, ?_⟩) ?_ ?_
    rotate_left
    · intro w'
      go_simp
      with_reducible rfl
    rotate_left
    · exact put_
    refine take_ (i := 2) (N := some 30) (v := ?_) (a' := ?_) #[true, true, true, true, true, false, true, true, false, false, true, false, false, false, true, true, false, false] rfl rfl (by kernel_rfl) (fun _ _ _ h => h) (Or.inl ⟨by rfl, ?_⟩) hHeld ?_ ?_
    rotate_left
    · rintro w' ⟨s0, s1, s2⟩
      go_simp
      with_reducible rfl
    rotate_left
    · exact put_
    refine take_ (i := 5) (N := some 33) (v := ?_) (a' := ?_) #[true, true, true, true, true, true, true, true, false, false, true, false, false, false, true, true, false, false] rfl rfl (by kernel_rfl) (fun _ _ _ h => h) (Or.inl ⟨by rfl, ?_⟩) hHeld ?_ ?_
    rotate_left
    · rintro w' ⟨s0, s1, s2⟩
      go_simp
      with_reducible rfl
    rotate_left
    · exact put_
    refine pure_ (i := 8) (N := some 36) (v := ?_) (a' := ?_) #[true, true, true, true, true, true, true, true, true, false, true, false, false, false, true, true, false, false] rfl rfl (by kernel_rfl) (fun _ _ _ h => h) (Or.inl ⟨by rfl, ?_⟩) ?_ ?_
    rotate_left
    · intro w'
      go_simp
      with_reducible rfl
    rotate_left
    · exact put_
    refine take_ (i := 9) (N := some 37) (v := ?_) (a' := ?_) #[true, true, true, true, true, true, true, true, true, true, true, false, false, false, true, true, false, false] rfl rfl (by kernel_rfl) (fun _ _ _ h => h) (Or.inl ⟨by rfl, ?_⟩) hHeld ?_ ?_
    rotate_left
    · rintro w' ⟨s0, s1, s2⟩
      go_simp
      with_reducible rfl
    rotate_left
    · exact put_
    refine take_ (i := 11) (N := some 39) (v := ?_) (a' := ?_) #[true, true, true, true, true, true, true, true, true, true, true, true, false, false, true, true, false, false] rfl rfl (by kernel_rfl) (fun _ _ _ h => h) (Or.inl ⟨by rfl, ?_⟩) hHeld ?_ ?_
    rotate_left
    · rintro w' ⟨s0, s1, s2⟩
      go_simp
      with_reducible rfl
    rotate_left
    · exact put_
    refine one_ (i := 12) (N := some 40) #[true, true, true, true, true, true, true, true, true, true, true, true, true, false, true, true, false, false] rfl rfl (by kernel_rfl) (by decide) (fun K hK => ?_)
    refine value_ (w1 := ?_) (v := ?_) (by rfl) rfl ?_ ?_
    rotate_left 2
    · go_simp
      constructor
      · rfl
      · rfl
    refine hK.out _ _ ⟨((blk_cell (blk_alloc HD.out.bp _) 0).trans rfl), ((blk_cell (blk_alloc HD.out.blk _) 13).trans rfl), ((blk_cell (blk_alloc HD.out.ce _) 0).trans rfl)⟩ (fun hHeld => ?_)
    clear hK K
    refine norm_ (a' := ?_) ?_ ?_
    rotate_left
    · show Act.put _ (some 40) _ = _
      exact put_
    refine one_ (i := 13) (N := some 41) #[true, true, true, true, true, true, true, true, true, true, true, true, true, true, true, true, false, false] rfl rfl (by kernel_rfl) (by decide) (fun K hK => ?_)
    refine Kd.R_append_step Kd.string (w0 := w) b (by rfl) (.tmp 37) (.tmp 40) 22 9 (.string ⟨#[]⟩) 16 rfl Try.underlying22 info9 rfl (by decide) (by omega) (.slice Ar L.c0.length cr) L.c0 R.s [.string R.s] (fun k => ff k = 5 ∨ V.heap.size ≤ k) (fun _ => False) rfl rfl ?aP (fun _ hk => hk.elim) ?aF ?aO ?aB ?aS ?aL ?_
    (case aP => exact rfl)
    (case aB => exact HD.out.hb)
    (case aF => exact (fun _ hk => .inr hk))
    (case aO => exact Kd.R_mono HEV.out.hc0 (fun _ hk => .inl hk))
    (case aS => exact HD.out.hs)
    (case aL => have := HLC.out; show (L.c0.length + 1) * 16 ≤ 140737488355328; omega)
    intro vz w8 ho hbb hg hat
    obtain ⟨A3, c3, rfl⟩ := Kd.R_slice ho
    have HO := Aside0.mk ho
    have HB8 := Aside0.mk hbb
    have HG := Aside0.mk hg
    have HFF := HF.out
    have HP8 := Aside0.mk (blk_grown HD.out.bp hg (fun e => by have h5 : ff gp = 5 := HEV.out.hc0.1 gp e.symm; have h9 : ff gp = 9 := HFF.1; omega))
    have HC8 := Aside0.mk (blk_grown HD.out.ce hg (fun e => by have h5 : ff gc = 5 := HEV.out.hc0.1 gc e.symm; have h9 : ff gc = 9 := HFF.2; omega))
    have HBK := Aside0.mk (blk_grown HEV.out.blk hg (fun e => by have h5 : ff g = 5 := HEV.out.hc0.1 g e.symm; have h9 : ff g = 7 := HEV.out.own; omega))
    clear ho hbb hg hat
    refine hK.out _ _ ⟨((blk_cell HP8.out 0).trans rfl), ((blk_cell HBK.out 13).trans rfl), ((blk_cell HC8.out 0).trans rfl)⟩ (fun hHeld => ?_)
    clear hK K
    refine norm_ (a' := ?_) ?_ ?_
    rotate_left
    · show Act.put _ (some 41) _ = _
      exact put_
    refine pure_ (i := 16) (N := some 44) (v := ?_) (a' := ?_) #[true, true, true, true, true, true, true, true, true, true, true, true, true, true, true, true, true, false] rfl rfl (by kernel_rfl) (fun _ _ _ h => h) (Or.inl ⟨by rfl, ?_⟩) ?_ ?_
    rotate_left
    · intro w'
      go_simp
      with_reducible rfl
    rotate_left
    · exact put_
    refine last_ (i := 17) (N := none) #[true, true, true, true, true, true, true, true, true, true, true, true, true, true, true, true, true, true] rfl rfl (by kernel_rfl) (by decide) (fun K hK => ?_)
    have hct : w8.cell? ⟨g, 13, none⟩ = some (.slice Ar L.c0.length cr) := (blk_cell HBK.out 13).trans rfl
    have hft : w8.frozen? ⟨g, 13, none⟩ = false := blk_frozen HBK.out 13
    refine skip_ (w1 := ?_) (by rfl) rfl ?_ ?_
    rotate_left
    · go_simp
      rfl
    refine hK.out _ _ ?_
    clear hK K
    refine done_ (by kernel_rfl) ?_
    have hlen : (L.c0 ++ [R.s]).length = L.c0.length + 1 := by simp
    obtain ⟨f9, hf9, he9⟩ := HEV.out.set_c0 HG.out HO.out
    rw [hlen] at he9
    have hgp : gp ≠ g := fun e => by have := HF.out.1; rw [e, HEV.out.own] at this; cases this
    have hgc : gc ≠ g := fun e => by have := HF.out.2; rw [e, HEV.out.own] at this; cases this
    have HP9 := Aside0.mk (blk_far (p := ⟨g, 13, none⟩) HP8.out hgp (.slice A3 (L.c0.length + 1) c3))
    have HC9 := Aside0.mk (blk_far (p := ⟨g, 13, none⟩) HC8.out hgc (.slice A3 (L.c0.length + 1) c3))
    have HB9 := Aside0.mk (HB8.out.setCell (p := ⟨g, 13, none⟩) HEV.out.low (.slice A3 (L.c0.length + 1) c3))
    have HE9 : Aside0 (Ends b _ g { L with x0 := (⟨L.x0.f0, R.o, R.f, R.l, R.w⟩ : S24), c0 := L.c0 ++ [R.s] }) := ⟨⟨f9, _, _, _, _, _, _, _, he9⟩⟩
    have HS9 := Aside0.mk (Nat.le_of_lt (Nat.lt_of_le_of_lt he9.low he9.lt))
    clear hgp hgc hlen he9 hf9
    generalize w8.setCell { block := g, off := 13 } (Value.slice A3 (L.c0.length + 1) c3) = w9 at HP9 HC9 HB9 HE9 HS9 ⊢
    have y0 : w9.cell? ⟨gp, 0, none⟩ = some (.int .i64 0) := (blk_cell HP9.out 0).trans rfl
    have y2 : w9.cell? ⟨gc, 2, none⟩ = some (.string R.reply) := (blk_cell HC9.out 2).trans rfl
    have z0 : wrap64 (1 - 0) = 1 := by unfold wrap64; omega
    go_wp2_with fail
    (with_reducible refine (ends_send.calls b g _ (⟨1, R.reply, false⟩ : S65) _ HE9.out HS9.out).mono ?_)
    rintro e wz ⟨rfl, hez, hbz⟩
    go_wp2
    refine bodyPost_end (results_none rfl _ _ _) rfl ?_
    exact ⟨rfl, by unfold LS.comes0; rw [if_pos HQ.out]; exact hez, (HB9.out).trans hbz⟩
set_option maxHeartbeats 4000000 in
set_option maxRecDepth 100000 in
theorem ends_comes1.calls (k b g : Nat) (L : LS) (ps : ByteArray) (pb : Bool) (R : link_Take.Res) (w : World) (h : Ends b w g L) (hb : b ≤ w.heap.size) (hlc : L.c1.length ≤ 1000) (hk : link_Take.f k L.x1.f0 L.x1.f1 L.x1.f2 L.x1.f3 L.x1.f4 ps = some R) :
    Calls Try.prog 28 #[.pointer (some ⟨g, 0, none⟩), .agg #[.int .i64 1, .string ps, .bool pb]] w fun e w' => e = .returned (.tuple #[]) ∧ Ends b w' g (L.comes1 R) ∧ Below b w w' := by
  obtain ⟨f, v0, v1, vn, q0, q1, r0, r1, h⟩ := h
  obtain ⟨A0, c0, hv, hc, hC⟩ := Kd.Q_reads h.h1
  obtain ⟨Ar, cr, hvr, _, _⟩ := Kd.R_reads h.hc1
  subst hv
  subst hvr
  have HCAP := Aside0.mk hc
  have HK := Aside0.mk hk
  have HLC := Aside0.mk hlc
  have HC : Aside0 (CI b w g L w.heap.size (⟨1, ps, pb⟩ : S65) 1 v0 (.slice A0 L.x1.f3.length c0) vn q0 q1 r0 (.slice Ar L.c1.length cr) none none none (w.alloc (.cells #[.int .i64 1, .string ps, .bool pb] 65 (0, 0)))) := ⟨CI.start h hb 1 ⟨1, ps, pb⟩⟩
  have hrow : ∀ oy oc W, CI b w g L w.heap.size (⟨1, ps, pb⟩ : S65) 1 v0 (.slice A0 L.x1.f3.length c0) vn q0 q1 r0 (.slice Ar L.c1.length cr) oy oc none W → Kd.C Kd.string W A0 L.x1.f3.length L.x1.f3 := fun oy oc W hc => by
    obtain ⟨f', he, _⟩ := hc.ev
    exact (Kd.Q_reads' he.h1).2.2
  have HROW := Aside0.mk hrow
  clear hrow hC hc hk h hb hlc
  have x0 := (blk_cell HC.out.bp 0).trans rfl
  go_enter Try.func28, Try.ntmps28
  go_upto_region 1 with (fail)
  replace HC := Aside0.mk HC.out.drew
  clear x0
  generalize w.alloc (.cells #[.int .i64 1, .string ps, .bool pb] 65 (0, 0)) = W0 at HC ⊢
  generalize w.heap.size = gp at HC HROW ⊢
  refine start_ (n := 17) (S := fun w' => w'.cell? ⟨gp, 0, none⟩ = some (.int .i64 1) ∧ w'.cell? ⟨gp, 1, none⟩ = some (.string ps) ∧ w'.cell? ⟨g, 5, none⟩ = some (.int .i64 L.x1.f0) ∧ w'.cell? ⟨g, 6, none⟩ = some (.int .i64 L.x1.f1) ∧ w'.cell? ⟨g, 7, none⟩ = some (.int .i64 L.x1.f2) ∧ w'.cell? ⟨g, 8, none⟩ = some (.slice A0 L.x1.f3.length c0) ∧ w'.cell? ⟨g, 9, none⟩ = some (.int .i64 L.x1.f4)) (ds := [15, 16]) #[false, false, false, false, false, false, false, false, false, false, false, false, false, false, false, false, false] (by kernel_rfl) rfl rfl ⟨((blk_cell HC.out.bp 0).trans rfl), ((blk_cell HC.out.bp 1).trans rfl), ((blk_cell HC.out.blk 5).trans rfl), ((blk_cell HC.out.blk 6).trans rfl), ((blk_cell HC.out.blk 7).trans rfl), ((blk_cell HC.out.blk 8).trans rfl), ((blk_cell HC.out.blk 9).trans rfl)⟩ (fun hHeld => ?_)
  generalize World.drew W0 = V at HC hHeld ⊢
  refine pure_ (i := 0) (N := some 7) (v := ?_) (a' := ?_) #[true, false, false, false, false, false, false, false, false, false, false, false, false, false, false, false, false] rfl rfl (by kernel_rfl) (fun _ _ _ h => h) (Or.inl ⟨by rfl, ?_⟩) ?_ ?_
  rotate_left
  · intro w'
    go_simp
    with_reducible rfl
  rotate_left
  · exact put_
  refine pure_ (i := 1) (N := some 8) (v := ?_) (a' := ?_) #[true, true, false, false, false, false, false, false, false, false, false, false, false, false, false, false, false] rfl rfl (by kernel_rfl) (fun _ _ _ h => h) (Or.inl ⟨by rfl, ?_⟩) ?_ ?_
  rotate_left
  · intro w'
    go_simp
    with_reducible rfl
  rotate_left
  · exact put_
  refine pure_ (i := 3) (N := some 10) (v := ?_) (a' := ?_) #[true, true, false, true, false, false, false, false, false, false, false, false, false, false, false, false, false] rfl rfl (by kernel_rfl) (fun _ _ _ h => h) (Or.inl ⟨by rfl, ?_⟩) ?_ ?_
  rotate_left
  · intro w'
    go_simp
    with_reducible rfl
  rotate_left
  · exact put_
  refine pure_ (i := 4) (N := some 11) (v := ?_) (a' := ?_) #[true, true, false, true, true, false, false, false, false, false, false, false, false, false, false, false, false] rfl rfl (by kernel_rfl) (fun _ _ _ h => h) (Or.inl ⟨by rfl, ?_⟩) ?_ ?_
  rotate_left
  · intro w'
    go_simp
    with_reducible rfl
  rotate_left
  · exact put_
  refine pure_ (i := 7) (N := some 14) (v := ?_) (a' := ?_) #[true, true, false, true, true, false, false, true, false, false, false, false, false, false, false, false, false] rfl rfl (by kernel_rfl) (fun _ _ _ h => h) (Or.inl ⟨by rfl, ?_⟩) ?_ ?_
  rotate_left
  · intro w'
    go_simp
    with_reducible rfl
  rotate_left
  · exact put_
  refine take_ (i := 2) (N := some 9) (v := ?_) (a' := ?_) #[true, true, true, true, true, false, false, true, false, false, false, false, false, false, false, false, false] rfl rfl (by kernel_rfl) (fun _ _ _ h => h) (Or.inl ⟨by rfl, ?_⟩) hHeld ?_ ?_
  rotate_left
  · rintro w' ⟨s0, s1, s2, s3, s4, s5, s6⟩
    go_simp
    with_reducible rfl
  rotate_left
  · exact put_
  refine pure_ (i := 5) (N := some 12) (v := ?_) (a' := ?_) #[true, true, true, true, true, true, false, true, false, false, false, false, false, false, false, false, false] rfl rfl (by kernel_rfl) (fun _ _ _ h => h) (Or.inl ⟨by rfl, ?_⟩) ?_ ?_
  rotate_left
  · intro w'
    go_simp
    with_reducible rfl
  rotate_left
  · exact put_
  refine take_ (i := 6) (N := some 13) (v := ?_) (a' := ?_) #[true, true, true, true, true, true, true, true, false, false, false, false, false, false, false, false, false] rfl rfl (by kernel_rfl) (fun _ _ _ h => h) (Or.inl ⟨by rfl, ?_⟩) hHeld ?_ ?_
  rotate_left
  · rintro w' ⟨s0, s1, s2, s3, s4, s5, s6⟩
    go_simp
    with_reducible rfl
  rotate_left
  · exact put_
  refine take_ (i := 8) (N := some 15) (v := ?_) (a' := ?_) #[true, true, true, true, true, true, true, true, true, false, false, false, false, false, false, false, false] rfl rfl (by kernel_rfl) (fun _ _ _ h => h) (Or.inl ⟨by rfl, ?_⟩) hHeld ?_ ?_
  rotate_left
  · rintro w' ⟨s0, s1, s2, s3, s4, s5, s6⟩
    go_simp
    with_reducible rfl
  rotate_left
  · exact put_
  refine join_ (σ := Nat × Nat × Option Addr × Nat) 2 #[true, true, true, true, true, true, true, true, true, true, true, true, true, true, true, false, false] (fun s => [(16, .tuple #[.agg #[.int .i64 L.x1.f0, .int .i64 R.o, .int .i64 R.f, .slice s.2.2.1 R.l.length s.2.2.2, .int .i64 R.w], .agg #[.string R.s, .bool R.has, .string R.reply, .bool R.anew]]), (6, .tuple #[.agg #[.int .i64 L.x1.f0, .int .i64 R.o, .int .i64 R.f, .slice s.2.2.1 R.l.length s.2.2.2, .int .i64 R.w], .agg #[.string R.s, .bool R.has, .string R.reply, .bool R.anew]]), (17, .agg #[.int .i64 L.x1.f0, .int .i64 R.o, .int .i64 R.f, .slice s.2.2.1 R.l.length s.2.2.2, .int .i64 R.w]), (18, .agg #[.string R.s, .bool R.has, .string R.reply, .bool R.anew]), (4, .pointer (some ⟨s.1, 0, none⟩)), (5, .pointer (some ⟨s.2.1, 0, none⟩))]) (fun s w' => CI b w g L gp (⟨1, ps, pb⟩ : S65) 1 v0 (.slice A0 L.x1.f3.length c0) vn q0 q1 r0 (.slice Ar L.c1.length cr) (some s.1) (some s.2.1) (some (.slice s.2.2.1 R.l.length s.2.2.2, R.l)) w') ?_ ?_
  rotate_left
  · intro hCont
    refine three_ (i := 9) (j := 13) (k := 14) (Ni := some 16) (Nj := some 4) (Nk := some 5) #[true, true, true, true, true, true, true, true, true, true, false, false, false, false, false, false, false] #[true, true, true, true, true, true, true, true, true, false, false, false, false, true, false, false, false] #[true, true, true, true, true, true, true, true, true, false, false, false, false, false, true, false, false] rfl rfl rfl rfl rfl rfl (by kernel_rfl) (by decide) (by decide) (by decide) (fun K hK => ?_) (fun K hK => ?_) (fun K hK => ?_)
    · skip
      refine goes_ Try.func22 (by kernel_rfl) rfl #[.agg #[.int .i64 L.x1.f0, .int .i64 L.x1.f1, .int .i64 L.x1.f2, .slice A0 L.x1.f3.length c0, .int .i64 L.x1.f4], .string ps] (by rfl) rfl rfl (by simp only [List.map_toArray, List.map_cons, List.map_nil]; rfl) ?_
      with_reducible refine (link_Take.walk k L.x1.f0 L.x1.f1 L.x1.f2 A0 c0 L.x1.f3 L.x1.f4 ps R _ (HROW.out _ _ _ HC.out) HCAP.out HK.out).mono ?_
      rintro e wt ⟨vt, rfl, hv, hb⟩
      refine ⟨_, rfl, ?_⟩
      obtain ⟨A1, c1, rfl, _, _⟩ := link_Take.Out_open hv (HROW.out _ _ _ HC.out) HCAP.out hb
      replace HC := Aside0.mk (HC.out.call1 hb rfl hv)
      clear hv hb
      refine hK.out _ _ ⟨((blk_cell HC.out.bp 0).trans rfl), ((blk_cell HC.out.bp 1).trans rfl), ((blk_cell HC.out.blk 5).trans rfl), ((blk_cell HC.out.blk 6).trans rfl), ((blk_cell HC.out.blk 7).trans rfl), ((blk_cell HC.out.blk 8).trans rfl), ((blk_cell HC.out.blk 9).trans rfl)⟩ (fun hHeld => ?_)
      clear hK K
      refine norm_ (a' := ?_) ?_ ?_
      rotate_left
      · show Act.put _ (some 16) _ = _
        exact put_
      refine pure_ (i := 10) (N := some 6) (v := ?_) (a' := ?_) #[true, true, true, true, true, true, true, true, true, true, true, false, false, false, false, false, false] rfl rfl (by kernel_rfl) (fun _ _ _ h => h) (Or.inl ⟨by rfl, ?_⟩) ?_ ?_
      rotate_left
      · intro w'
        go_simp
        with_reducible rfl
      rotate_left
      · exact put_
      refine pure_ (i := 11) (N := some 17) (v := ?_) (a' := ?_) #[true, true, true, true, true, true, true, true, true, true, true, true, false, false, false, false, false] rfl rfl (by kernel_rfl) (fun _ _ _ h => h) (Or.inl ⟨by rfl, ?_⟩) ?_ ?_
      rotate_left
      · intro w'
        go_simp
        with_reducible rfl
      rotate_left
      · exact put_
      refine pure_ (i := 12) (N := some 18) (v := ?_) (a' := ?_) #[true, true, true, true, true, true, true, true, true, true, true, true, true, false, false, false, false] rfl rfl (by kernel_rfl) (fun _ _ _ h => h) (Or.inl ⟨by rfl, ?_⟩) ?_ ?_
      rotate_left
      · intro w'
        go_simp
        with_reducible rfl
      rotate_left
      · exact put_
      refine two_ (i := 13) (j := 14) (Ni := some 4) (Nj := some 5) #[true, true, true, true, true, true, true, true, true, true, true, true, true, true, false, false, false] #[true, true, true, true, true, true, true, true, true, true, true, true, true, false, true, false, false] rfl rfl rfl rfl (by kernel_rfl) (by decide) (by decide) (fun K hK => ?_) (fun K hK => ?_)
      · skip
        refine value_ (w1 := ?_) (v := ?_) (by rfl) rfl ?_ ?_
        rotate_left 2
        · go_simp
          constructor
          · rfl
          · rfl
        replace HC := Aside0.mk HC.out.allocY
        refine hK.out _ _ ⟨((blk_cell HC.out.bp 0).trans rfl), ((blk_cell HC.out.bp 1).trans rfl), ((blk_cell HC.out.blk 5).trans rfl), ((blk_cell HC.out.blk 6).trans rfl), ((blk_cell HC.out.blk 7).trans rfl), ((blk_cell HC.out.blk 8).trans rfl), ((blk_cell HC.out.blk 9).trans rfl)⟩ (fun hHeld => ?_)
        clear hK K
        refine norm_ (a' := ?_) ?_ ?_
        rotate_left
        · show Act.put _ (some 4) _ = _
          exact put_
        refine one_ (i := 14) (N := some 5) #[true, true, true, true, true, true, true, true, true, true, true, true, true, true, true, false, false] rfl rfl (by kernel_rfl) (by decide) (fun K hK => ?_)
        refine value_ (w1 := ?_) (v := ?_) (by rfl) rfl ?_ ?_
        rotate_left 2
        · go_simp
          constructor
          · rfl
          · rfl
        replace HC := Aside0.mk HC.out.allocC
        refine hK.out _ _ ⟨((blk_cell HC.out.bp 0).trans rfl), ((blk_cell HC.out.bp 1).trans rfl), ((blk_cell HC.out.blk 5).trans rfl), ((blk_cell HC.out.blk 6).trans rfl), ((blk_cell HC.out.blk 7).trans rfl), ((blk_cell HC.out.blk 8).trans rfl), ((blk_cell HC.out.blk 9).trans rfl)⟩ (fun hHeld => ?_)
        clear hK K
        refine norm_ (a' := ?_) ?_ ?_
        rotate_left
        · show Act.put _ (some 5) _ = _
          exact put_
        exact qendsc0_
      · skip
        refine value_ (w1 := ?_) (v := ?_) (by rfl) rfl ?_ ?_
        rotate_left 2
        · go_simp
          constructor
          · rfl
          · rfl
        replace HC := Aside0.mk HC.out.allocC
        refine hK.out _ _ ⟨((blk_cell HC.out.bp 0).trans rfl), ((blk_cell HC.out.bp 1).trans rfl), ((blk_cell HC.out.blk 5).trans rfl), ((blk_cell HC.out.blk 6).trans rfl), ((blk_cell HC.out.blk 7).trans rfl), ((blk_cell HC.out.blk 8).trans rfl), ((blk_cell HC.out.blk 9).trans rfl)⟩ (fun hHeld => ?_)
        clear hK K
        refine norm_ (a' := ?_) ?_ ?_
        rotate_left
        · show Act.put _ (some 5) _ = _
          exact put_
        refine one_ (i := 13) (N := some 4) #[true, true, true, true, true, true, true, true, true, true, true, true, true, true, true, false, false] rfl rfl (by kernel_rfl) (by decide) (fun K hK => ?_)
        refine value_ (w1 := ?_) (v := ?_) (by rfl) rfl ?_ ?_
        rotate_left 2
        · go_simp
          constructor
          · rfl
          · rfl
        replace HC := Aside0.mk HC.out.allocY
        refine hK.out _ _ ⟨((blk_cell HC.out.bp 0).trans rfl), ((blk_cell HC.out.bp 1).trans rfl), ((blk_cell HC.out.blk 5).trans rfl), ((blk_cell HC.out.blk 6).trans rfl), ((blk_cell HC.out.blk 7).trans rfl), ((blk_cell HC.out.blk 8).trans rfl), ((blk_cell HC.out.blk 9).trans rfl)⟩ (fun hHeld => ?_)
        clear hK K
        refine norm_ (a' := ?_) ?_ ?_
        rotate_left
        · show Act.put _ (some 4) _ = _
          exact put_
        exact qendsc0_
    · skip
      refine value_ (w1 := ?_) (v := ?_) (by rfl) rfl ?_ ?_
      rotate_left 2
      · go_simp
        constructor
        · rfl
        · rfl
      replace HC := Aside0.mk HC.out.allocY
      refine hK.out _ _ ⟨((blk_cell HC.out.bp 0).trans rfl), ((blk_cell HC.out.bp 1).trans rfl), ((blk_cell HC.out.blk 5).trans rfl), ((blk_cell HC.out.blk 6).trans rfl), ((blk_cell HC.out.blk 7).trans rfl), ((blk_cell HC.out.blk 8).trans rfl), ((blk_cell HC.out.blk 9).trans rfl)⟩ (fun hHeld => ?_)
      clear hK K
      refine norm_ (a' := ?_) ?_ ?_
      rotate_left
      · show Act.put _ (some 4) _ = _
        exact put_
      refine two_ (i := 9) (j := 14) (Ni := some 16) (Nj := some 5) #[true, true, true, true, true, true, true, true, true, true, false, false, false, true, false, false, false] #[true, true, true, true, true, true, true, true, true, false, false, false, false, true, true, false, false] rfl rfl rfl rfl (by kernel_rfl) (by decide) (by decide) (fun K hK => ?_) (fun K hK => ?_)
      · skip
        refine goes_ Try.func22 (by kernel_rfl) rfl #[.agg #[.int .i64 L.x1.f0, .int .i64 L.x1.f1, .int .i64 L.x1.f2, .slice A0 L.x1.f3.length c0, .int .i64 L.x1.f4], .string ps] (by rfl) rfl rfl (by simp only [List.map_toArray, List.map_cons, List.map_nil]; rfl) ?_
        with_reducible refine (link_Take.walk k L.x1.f0 L.x1.f1 L.x1.f2 A0 c0 L.x1.f3 L.x1.f4 ps R _ (HROW.out _ _ _ HC.out) HCAP.out HK.out).mono ?_
        rintro e wt ⟨vt, rfl, hv, hb⟩
        refine ⟨_, rfl, ?_⟩
        obtain ⟨A1, c1, rfl, _, _⟩ := link_Take.Out_open hv (HROW.out _ _ _ HC.out) HCAP.out hb
        replace HC := Aside0.mk (HC.out.call1 hb rfl hv)
        clear hv hb
        refine hK.out _ _ ⟨((blk_cell HC.out.bp 0).trans rfl), ((blk_cell HC.out.bp 1).trans rfl), ((blk_cell HC.out.blk 5).trans rfl), ((blk_cell HC.out.blk 6).trans rfl), ((blk_cell HC.out.blk 7).trans rfl), ((blk_cell HC.out.blk 8).trans rfl), ((blk_cell HC.out.blk 9).trans rfl)⟩ (fun hHeld => ?_)
        clear hK K
        refine norm_ (a' := ?_) ?_ ?_
        rotate_left
        · show Act.put _ (some 16) _ = _
          exact put_
        refine pure_ (i := 10) (N := some 6) (v := ?_) (a' := ?_) #[true, true, true, true, true, true, true, true, true, true, true, false, false, true, false, false, false] rfl rfl (by kernel_rfl) (fun _ _ _ h => h) (Or.inl ⟨by rfl, ?_⟩) ?_ ?_
        rotate_left
        · intro w'
          go_simp
          with_reducible rfl
        rotate_left
        · exact put_
        refine pure_ (i := 11) (N := some 17) (v := ?_) (a' := ?_) #[true, true, true, true, true, true, true, true, true, true, true, true, false, true, false, false, false] rfl rfl (by kernel_rfl) (fun _ _ _ h => h) (Or.inl ⟨by rfl, ?_⟩) ?_ ?_
        rotate_left
        · intro w'
          go_simp
          with_reducible rfl
        rotate_left
        · exact put_
        refine pure_ (i := 12) (N := some 18) (v := ?_) (a' := ?_) #[true, true, true, true, true, true, true, true, true, true, true, true, true, true, false, false, false] rfl rfl (by kernel_rfl) (fun _ _ _ h => h) (Or.inl ⟨by rfl, ?_⟩) ?_ ?_
        rotate_left
        · intro w'
          go_simp
          with_reducible rfl
        rotate_left
        · exact put_
        refine one_ (i := 14) (N := some 5) #[true, true, true, true, true, true, true, true, true, true, true, true, true, true, true, false, false] rfl rfl (by kernel_rfl) (by decide) (fun K hK => ?_)
        refine value_ (w1 := ?_) (v := ?_) (by rfl) rfl ?_ ?_
        rotate_left 2
        · go_simp
          constructor
          · rfl
          · rfl
        replace HC := Aside0.mk HC.out.allocC
        refine hK.out _ _ ⟨((blk_cell HC.out.bp 0).trans rfl), ((blk_cell HC.out.bp 1).trans rfl), ((blk_cell HC.out.blk 5).trans rfl), ((blk_cell HC.out.blk 6).trans rfl), ((blk_cell HC.out.blk 7).trans rfl), ((blk_cell HC.out.blk 8).trans rfl), ((blk_cell HC.out.blk 9).trans rfl)⟩ (fun hHeld => ?_)
        clear hK K
        refine norm_ (a' := ?_) ?_ ?_
        rotate_left
        · show Act.put _ (some 5) _ = _
          exact put_
        exact qendsc0_
      · skip
        refine value_ (w1 := ?_) (v := ?_) (by rfl) rfl ?_ ?_
        rotate_left 2
        · go_simp
          constructor
          · rfl
          · rfl
        replace HC := Aside0.mk HC.out.allocC
        refine hK.out _ _ ⟨((blk_cell HC.out.bp 0).trans rfl), ((blk_cell HC.out.bp 1).trans rfl), ((blk_cell HC.out.blk 5).trans rfl), ((blk_cell HC.out.blk 6).trans rfl), ((blk_cell HC.out.blk 7).trans rfl), ((blk_cell HC.out.blk 8).trans rfl), ((blk_cell HC.out.blk 9).trans rfl)⟩ (fun hHeld => ?_)
        clear hK K
        refine norm_ (a' := ?_) ?_ ?_
        rotate_left
        · show Act.put _ (some 5) _ = _
          exact put_
        refine one_ (i := 9) (N := some 16) #[true, true, true, true, true, true, true, true, true, true, false, false, false, true, true, false, false] rfl rfl (by kernel_rfl) (by decide) (fun K hK => ?_)
        refine goes_ Try.func22 (by kernel_rfl) rfl #[.agg #[.int .i64 L.x1.f0, .int .i64 L.x1.f1, .int .i64 L.x1.f2, .slice A0 L.x1.f3.length c0, .int .i64 L.x1.f4], .string ps] (by rfl) rfl rfl (by simp only [List.map_toArray, List.map_cons, List.map_nil]; rfl) ?_
        with_reducible refine (link_Take.walk k L.x1.f0 L.x1.f1 L.x1.f2 A0 c0 L.x1.f3 L.x1.f4 ps R _ (HROW.out _ _ _ HC.out) HCAP.out HK.out).mono ?_
        rintro e wt ⟨vt, rfl, hv, hb⟩
        refine ⟨_, rfl, ?_⟩
        obtain ⟨A1, c1, rfl, _, _⟩ := link_Take.Out_open hv (HROW.out _ _ _ HC.out) HCAP.out hb
        replace HC := Aside0.mk (HC.out.call1 hb rfl hv)
        clear hv hb
        refine hK.out _ _ ⟨((blk_cell HC.out.bp 0).trans rfl), ((blk_cell HC.out.bp 1).trans rfl), ((blk_cell HC.out.blk 5).trans rfl), ((blk_cell HC.out.blk 6).trans rfl), ((blk_cell HC.out.blk 7).trans rfl), ((blk_cell HC.out.blk 8).trans rfl), ((blk_cell HC.out.blk 9).trans rfl)⟩ (fun hHeld => ?_)
        clear hK K
        refine norm_ (a' := ?_) ?_ ?_
        rotate_left
        · show Act.put _ (some 16) _ = _
          exact put_
        refine pure_ (i := 10) (N := some 6) (v := ?_) (a' := ?_) #[true, true, true, true, true, true, true, true, true, true, true, false, false, true, true, false, false] rfl rfl (by kernel_rfl) (fun _ _ _ h => h) (Or.inl ⟨by rfl, ?_⟩) ?_ ?_
        rotate_left
        · intro w'
          go_simp
          with_reducible rfl
        rotate_left
        · exact put_
        refine pure_ (i := 11) (N := some 17) (v := ?_) (a' := ?_) #[true, true, true, true, true, true, true, true, true, true, true, true, false, true, true, false, false] rfl rfl (by kernel_rfl) (fun _ _ _ h => h) (Or.inl ⟨by rfl, ?_⟩) ?_ ?_
        rotate_left
        · intro w'
          go_simp
          with_reducible rfl
        rotate_left
        · exact put_
        refine pure_ (i := 12) (N := some 18) (v := ?_) (a' := ?_) #[true, true, true, true, true, true, true, true, true, true, true, true, true, true, true, false, false] rfl rfl (by kernel_rfl) (fun _ _ _ h => h) (Or.inl ⟨by rfl, ?_⟩) ?_ ?_
        rotate_left
        · intro w'
          go_simp
          with_reducible rfl
        rotate_left
        · exact put_
        exact qendsc0_
    · skip
      refine value_ (w1 := ?_) (v := ?_) (by rfl) rfl ?_ ?_
      rotate_left 2
      · go_simp
        constructor
        · rfl
        · rfl
      replace HC := Aside0.mk HC.out.allocC
      refine hK.out _ _ ⟨((blk_cell HC.out.bp 0).trans rfl), ((blk_cell HC.out.bp 1).trans rfl), ((blk_cell HC.out.blk 5).trans rfl), ((blk_cell HC.out.blk 6).trans rfl), ((blk_cell HC.out.blk 7).trans rfl), ((blk_cell HC.out.blk 8).trans rfl), ((blk_cell HC.out.blk 9).trans rfl)⟩ (fun hHeld => ?_)
      clear hK K
      refine norm_ (a' := ?_) ?_ ?_
      rotate_left
      · show Act.put _ (some 5) _ = _
        exact put_
      refine two_ (i := 9) (j := 13) (Ni := some 16) (Nj := some 4) #[true, true, true, true, true, true, true, true, true, true, false, false, false, false, true, false, false] #[true, true, true, true, true, true, true, true, true, false, false, false, false, true, true, false, false] rfl rfl rfl rfl (by kernel_rfl) (by decide) (by decide) (fun K hK => ?_) (fun K hK => ?_)
      · skip
        refine goes_ Try.func22 (by kernel_rfl) rfl #[.agg #[.int .i64 L.x1.f0, .int .i64 L.x1.f1, .int .i64 L.x1.f2, .slice A0 L.x1.f3.length c0, .int .i64 L.x1.f4], .string ps] (by rfl) rfl rfl (by simp only [List.map_toArray, List.map_cons, List.map_nil]; rfl) ?_
        with_reducible refine (link_Take.walk k L.x1.f0 L.x1.f1 L.x1.f2 A0 c0 L.x1.f3 L.x1.f4 ps R _ (HROW.out _ _ _ HC.out) HCAP.out HK.out).mono ?_
        rintro e wt ⟨vt, rfl, hv, hb⟩
        refine ⟨_, rfl, ?_⟩
        obtain ⟨A1, c1, rfl, _, _⟩ := link_Take.Out_open hv (HROW.out _ _ _ HC.out) HCAP.out hb
        replace HC := Aside0.mk (HC.out.call1 hb rfl hv)
        clear hv hb
        refine hK.out _ _ ⟨((blk_cell HC.out.bp 0).trans rfl), ((blk_cell HC.out.bp 1).trans rfl), ((blk_cell HC.out.blk 5).trans rfl), ((blk_cell HC.out.blk 6).trans rfl), ((blk_cell HC.out.blk 7).trans rfl), ((blk_cell HC.out.blk 8).trans rfl), ((blk_cell HC.out.blk 9).trans rfl)⟩ (fun hHeld => ?_)
        clear hK K
        refine norm_ (a' := ?_) ?_ ?_
        rotate_left
        · show Act.put _ (some 16) _ = _
          exact put_
        refine pure_ (i := 10) (N := some 6) (v := ?_) (a' := ?_) #[true, true, true, true, true, true, true, true, true, true, true, false, false, false, true, false, false] rfl rfl (by kernel_rfl) (fun _ _ _ h => h) (Or.inl ⟨by rfl, ?_⟩) ?_ ?_
        rotate_left
        · intro w'
          go_simp
          with_reducible rfl
        rotate_left
        · exact put_
        refine pure_ (i := 11) (N := some 17) (v := ?_) (a' := ?_) #[true, true, true, true, true, true, true, true, true, true, true, true, false, false, true, false, false] rfl rfl (by kernel_rfl) (fun _ _ _ h => h) (Or.inl ⟨by rfl, ?_⟩) ?_ ?_
        rotate_left
        · intro w'
          go_simp
          with_reducible rfl
        rotate_left
        · exact put_
        refine pure_ (i := 12) (N := some 18) (v := ?_) (a' := ?_) #[true, true, true, true, true, true, true, true, true, true, true, true, true, false, true, false, false] rfl rfl (by kernel_rfl) (fun _ _ _ h => h) (Or.inl ⟨by rfl, ?_⟩) ?_ ?_
        rotate_left
        · intro w'
          go_simp
          with_reducible rfl
        rotate_left
        · exact put_
        refine one_ (i := 13) (N := some 4) #[true, true, true, true, true, true, true, true, true, true, true, true, true, true, true, false, false] rfl rfl (by kernel_rfl) (by decide) (fun K hK => ?_)
        refine value_ (w1 := ?_) (v := ?_) (by rfl) rfl ?_ ?_
        rotate_left 2
        · go_simp
          constructor
          · rfl
          · rfl
        replace HC := Aside0.mk HC.out.allocY
        refine hK.out _ _ ⟨((blk_cell HC.out.bp 0).trans rfl), ((blk_cell HC.out.bp 1).trans rfl), ((blk_cell HC.out.blk 5).trans rfl), ((blk_cell HC.out.blk 6).trans rfl), ((blk_cell HC.out.blk 7).trans rfl), ((blk_cell HC.out.blk 8).trans rfl), ((blk_cell HC.out.blk 9).trans rfl)⟩ (fun hHeld => ?_)
        clear hK K
        refine norm_ (a' := ?_) ?_ ?_
        rotate_left
        · show Act.put _ (some 4) _ = _
          exact put_
        exact qendsc0_
      · skip
        refine value_ (w1 := ?_) (v := ?_) (by rfl) rfl ?_ ?_
        rotate_left 2
        · go_simp
          constructor
          · rfl
          · rfl
        replace HC := Aside0.mk HC.out.allocY
        refine hK.out _ _ ⟨((blk_cell HC.out.bp 0).trans rfl), ((blk_cell HC.out.bp 1).trans rfl), ((blk_cell HC.out.blk 5).trans rfl), ((blk_cell HC.out.blk 6).trans rfl), ((blk_cell HC.out.blk 7).trans rfl), ((blk_cell HC.out.blk 8).trans rfl), ((blk_cell HC.out.blk 9).trans rfl)⟩ (fun hHeld => ?_)
        clear hK K
        refine norm_ (a' := ?_) ?_ ?_
        rotate_left
        · show Act.put _ (some 4) _ = _
          exact put_
        refine one_ (i := 9) (N := some 16) #[true, true, true, true, true, true, true, true, true, true, false, false, false, true, true, false, false] rfl rfl (by kernel_rfl) (by decide) (fun K hK => ?_)
        refine goes_ Try.func22 (by kernel_rfl) rfl #[.agg #[.int .i64 L.x1.f0, .int .i64 L.x1.f1, .int .i64 L.x1.f2, .slice A0 L.x1.f3.length c0, .int .i64 L.x1.f4], .string ps] (by rfl) rfl rfl (by simp only [List.map_toArray, List.map_cons, List.map_nil]; rfl) ?_
        with_reducible refine (link_Take.walk k L.x1.f0 L.x1.f1 L.x1.f2 A0 c0 L.x1.f3 L.x1.f4 ps R _ (HROW.out _ _ _ HC.out) HCAP.out HK.out).mono ?_
        rintro e wt ⟨vt, rfl, hv, hb⟩
        refine ⟨_, rfl, ?_⟩
        obtain ⟨A1, c1, rfl, _, _⟩ := link_Take.Out_open hv (HROW.out _ _ _ HC.out) HCAP.out hb
        replace HC := Aside0.mk (HC.out.call1 hb rfl hv)
        clear hv hb
        refine hK.out _ _ ⟨((blk_cell HC.out.bp 0).trans rfl), ((blk_cell HC.out.bp 1).trans rfl), ((blk_cell HC.out.blk 5).trans rfl), ((blk_cell HC.out.blk 6).trans rfl), ((blk_cell HC.out.blk 7).trans rfl), ((blk_cell HC.out.blk 8).trans rfl), ((blk_cell HC.out.blk 9).trans rfl)⟩ (fun hHeld => ?_)
        clear hK K
        refine norm_ (a' := ?_) ?_ ?_
        rotate_left
        · show Act.put _ (some 16) _ = _
          exact put_
        refine pure_ (i := 10) (N := some 6) (v := ?_) (a' := ?_) #[true, true, true, true, true, true, true, true, true, true, true, false, false, true, true, false, false] rfl rfl (by kernel_rfl) (fun _ _ _ h => h) (Or.inl ⟨by rfl, ?_⟩) ?_ ?_
        rotate_left
        · intro w'
          go_simp
          with_reducible rfl
        rotate_left
        · exact put_
        refine pure_ (i := 11) (N := some 17) (v := ?_) (a' := ?_) #[true, true, true, true, true, true, true, true, true, true, true, true, false, true, true, false, false] rfl rfl (by kernel_rfl) (fun _ _ _ h => h) (Or.inl ⟨by rfl, ?_⟩) ?_ ?_
        rotate_left
        · intro w'
          go_simp
          with_reducible rfl
        rotate_left
        · exact put_
        refine pure_ (i := 12) (N := some 18) (v := ?_) (a' := ?_) #[true, true, true, true, true, true, true, true, true, true, true, true, true, true, true, false, false] rfl rfl (by kernel_rfl) (fun _ _ _ h => h) (Or.inl ⟨by rfl, ?_⟩) ?_ ?_
        rotate_left
        · intro w'
          go_simp
          with_reducible rfl
        rotate_left
        · exact put_
        exact qendsc0_
  rintro ⟨gy, gc, A1, c1⟩ w4 hci
  have HC4 := Aside0.mk hci
  clear hci
  have hHeld : w4.cell? ⟨gp, 0, none⟩ = some (.int .i64 1) ∧ w4.cell? ⟨gp, 1, none⟩ = some (.string ps) ∧ w4.cell? ⟨g, 5, none⟩ = some (.int .i64 L.x1.f0) ∧ w4.cell? ⟨g, 6, none⟩ = some (.int .i64 L.x1.f1) ∧ w4.cell? ⟨g, 7, none⟩ = some (.int .i64 L.x1.f2) ∧ w4.cell? ⟨g, 8, none⟩ = some (.slice A0 L.x1.f3.length c0) ∧ w4.cell? ⟨g, 9, none⟩ = some (.int .i64 L.x1.f4) := ⟨((blk_cell HC4.out.bp 0).trans rfl), ((blk_cell HC4.out.bp 1).trans rfl), ((blk_cell HC4.out.blk 5).trans rfl), ((blk_cell HC4.out.blk 6).trans rfl), ((blk_cell HC4.out.blk 7).trans rfl), ((blk_cell HC4.out.blk 8).trans rfl), ((blk_cell HC4.out.blk 9).trans rfl)⟩
  refine norm_ (a' := ?_) ?_ ?_
  rotate_left
  · simp only [putAll, Act.put, List.setIfInBounds_toArray, List.set_cons_zero, List.set_cons_succ]
    rfl
  refine last_ (i := 15) (N := none) #[true, true, true, true, true, true, true, true, true, true, true, true, true, true, true, true, false] rfl rfl (by kernel_rfl) (by decide) (fun K hK => ?_)
  have HD := Aside0.mk (DI.of HC4.out (HC4.out.ly _ rfl) (HC4.out.lc _ rfl))
  clear HC4 HC
  have a0 : w4.cell? ⟨gy, 0, none⟩ = some (.int .i64 0) := (blk_cell HD.out.ye 0).trans rfl
  have a1 : w4.cell? ⟨gy, 1, none⟩ = some (.int .i64 0) := (blk_cell HD.out.ye 1).trans rfl
  have a2 : w4.cell? ⟨gy, 2, none⟩ = some (.int .i64 0) := (blk_cell HD.out.ye 2).trans rfl
  have a3 : w4.cell? ⟨gy, 3, none⟩ = some (.slice none 0 0) := (blk_cell HD.out.ye 3).trans rfl
  have a4 : w4.cell? ⟨gy, 4, none⟩ = some (.int .i64 0) := (blk_cell HD.out.ye 4).trans rfl
  have b0 : w4.frozen? ⟨gy, 0, none⟩ = false := blk_frozen HD.out.ye 0
  have b1 : w4.frozen? ⟨gy, 1, none⟩ = false := blk_frozen HD.out.ye 1
  have b2 : w4.frozen? ⟨gy, 2, none⟩ = false := blk_frozen HD.out.ye 2
  have b3 : w4.frozen? ⟨gy, 3, none⟩ = false := blk_frozen HD.out.ye 3
  have b4 : w4.frozen? ⟨gy, 4, none⟩ = false := blk_frozen HD.out.ye 4
  refine skip_ (w1 := ?_) (by rfl) rfl ?_ ?_
  rotate_left
  · go_simp
    rfl
  refine hK.out _ _ ?_
  clear hK K
  refine last_ (i := 16) (N := none) #[true, true, true, true, true, true, true, true, true, true, true, true, true, true, true, true, true] rfl rfl (by kernel_rfl) (by decide) (fun K hK => ?_)
  clear a0 a1 a2 a3 a4 b0 b1 b2 b3 b4
  replace HD := Aside0.mk (((((HD.out.setY (by decide) 0 (.int .i64 L.x1.f0) rfl).setY (by decide) 1 (.int .i64 R.o) rfl).setY (by decide) 2 (.int .i64 R.f) rfl).setY (by decide) 3 (.slice A1 R.l.length c1) rfl).setY (by decide) 4 (.int .i64 R.w) rfl)
  generalize (((((w4.setCell { block := gy, off := 0 } (Value.int .i64 L.x1.f0)).setCell { block := gy, off := 1 } (Value.int .i64 R.o)).setCell { block := gy, off := 2 } (Value.int .i64 R.f)).setCell { block := gy, off := 3 } (Value.slice A1 R.l.length c1)).setCell { block := gy, off := 4 } (Value.int .i64 R.w)) = w5 at HD ⊢
  have a0 : w5.cell? ⟨gc, 0, none⟩ = some (.string ⟨#[]⟩) := (blk_cell HD.out.ce 0).trans rfl
  have a1 : w5.cell? ⟨gc, 1, none⟩ = some (.bool false) := (blk_cell HD.out.ce 1).trans rfl
  have a2 : w5.cell? ⟨gc, 2, none⟩ = some (.string ⟨#[]⟩) := (blk_cell HD.out.ce 2).trans rfl
  have a3 : w5.cell? ⟨gc, 3, none⟩ = some (.bool false) := (blk_cell HD.out.ce 3).trans rfl
  have b0 : w5.frozen? ⟨gc, 0, none⟩ = false := blk_frozen HD.out.ce 0
  have b1 : w5.frozen? ⟨gc, 1, none⟩ = false := blk_frozen HD.out.ce 1
  have b2 : w5.frozen? ⟨gc, 2, none⟩ = false := blk_frozen HD.out.ce 2
  have b3 : w5.frozen? ⟨gc, 3, none⟩ = false := blk_frozen HD.out.ce 3
  refine skip_ (w1 := ?_) (by rfl) rfl ?_ ?_
  rotate_left
  · go_simp
    rfl
  refine hK.out _ _ ?_
  clear hK K
  refine done_ (by kernel_rfl) ?_
  clear a0 a1 a2 a3 b0 b1 b2 b3
  replace HD := Aside0.mk ((((HD.out.setC (by decide) 0 (.string R.s) rfl).setC (by decide) 1 (.bool R.has) rfl).setC (by decide) 2 (.string R.reply) rfl).setC (by decide) 3 (.bool R.anew) rfl)
  generalize ((((w5.setCell { block := gc, off := 0 } (Value.string R.s)).setCell { block := gc, off := 1 } (Value.bool R.has)).setCell { block := gc, off := 2 } (Value.string R.reply)).setCell { block := gc, off := 3 } (Value.bool R.anew)) = w6 at HD ⊢
  go_upto_region 2 with (fail)
  replace HD := Aside0.mk HD.out.drew
  refine start_ (n := 8) (S := fun w' => w'.cell? ⟨gp, 0, none⟩ = some (.int .i64 1) ∧ w'.cell? ⟨gy, 0, none⟩ = some (.int .i64 L.x1.f0) ∧ w'.cell? ⟨gy, 1, none⟩ = some (.int .i64 R.o) ∧ w'.cell? ⟨gy, 2, none⟩ = some (.int .i64 R.f) ∧ w'.cell? ⟨gy, 3, none⟩ = some (.slice A1 R.l.length c1) ∧ w'.cell? ⟨gy, 4, none⟩ = some (.int .i64 R.w)) (ds := [7]) #[false, false, false, false, false, false, false, false] (by kernel_rfl) rfl rfl ⟨((blk_cell HD.out.bp 0).trans rfl), ((blk_cell HD.out.ye 0).trans rfl), ((blk_cell HD.out.ye 1).trans rfl), ((blk_cell HD.out.ye 2).trans rfl), ((blk_cell HD.out.ye 3).trans rfl), ((blk_cell HD.out.ye 4).trans rfl)⟩ (fun hHeld => ?_)
  generalize World.drew w6 = V at HD hHeld ⊢
  refine pure_ (i := 0) (N := some 19) (v := ?_) (a' := ?_) #[true, false, false, false, false, false, false, false] rfl rfl (by kernel_rfl) (fun _ _ _ h => h) (Or.inl ⟨by rfl, ?_⟩) ?_ ?_
  rotate_left
  · intro w'
    go_simp
    with_reducible rfl
  rotate_left
  · exact put_
  refine pure_ (i := 1) (N := some 20) (v := ?_) (a' := ?_) #[true, true, false, false, false, false, false, false] rfl rfl (by kernel_rfl) (fun _ _ _ h => h) (Or.inl ⟨by rfl, ?_⟩) ?_ ?_
  rotate_left
  · intro w'
    go_simp
    with_reducible rfl
  rotate_left
  · exact put_
  refine pure_ (i := 4) (N := some 23) (v := ?_) (a' := ?_) #[true, true, false, false, true, false, false, false] rfl rfl (by kernel_rfl) (fun _ _ _ h => h) (Or.inl ⟨by rfl, ?_⟩) ?_ ?_
  rotate_left
  · intro w'
    go_simp
    with_reducible rfl
  rotate_left
  · exact put_
  refine pure_ (i := 5) (N := some 24) (v := ?_) (a' := ?_) #[true, true, false, false, true, true, false, false] rfl rfl (by kernel_rfl) (fun _ _ _ h => h) (Or.inl ⟨by rfl, ?_⟩) ?_ ?_
  rotate_left
  · intro w'
    go_simp
    with_reducible rfl
  rotate_left
  · exact put_
  refine take_ (i := 2) (N := some 21) (v := ?_) (a' := ?_) #[true, true, true, false, true, true, false, false] rfl rfl (by kernel_rfl) (fun _ _ _ h => h) (Or.inl ⟨by rfl, ?_⟩) hHeld ?_ ?_
  rotate_left
  · rintro w' ⟨s0, s1, s2, s3, s4, s5⟩
    go_simp
    with_reducible rfl
  rotate_left
  · exact put_
  refine take_ (i := 3) (N := some 22) (v := ?_) (a' := ?_) #[true, true, true, true, true, true, false, false] rfl rfl (by kernel_rfl) (fun _ _ _ h => h) (Or.inl ⟨by rfl, ?_⟩) hHeld ?_ ?_
  rotate_left
  · rintro w' ⟨s0, s1, s2, s3, s4, s5⟩
    go_simp
    with_reducible rfl
  rotate_left
  · exact put_
  refine pure_ (i := 6) (N := some 25) (v := ?_) (a' := ?_) #[true, true, true, true, true, true, true, false] rfl rfl (by kernel_rfl) (fun _ _ _ h => h) (Or.inl ⟨by rfl, ?_⟩) ?_ ?_
  rotate_left
  · intro w'
    go_simp
    with_reducible rfl
  rotate_left
  · exact put_
  refine last_ (i := 7) (N := none) #[true, true, true, true, true, true, true, true] rfl rfl (by kernel_rfl) (by decide) (fun K hK => ?_)
  have a0 : V.cell? ⟨g, 5, none⟩ = some (.int .i64 L.x1.f0) := (blk_cell HD.out.blk 5).trans rfl
  have a1 : V.cell? ⟨g, 6, none⟩ = some (.int .i64 L.x1.f1) := (blk_cell HD.out.blk 6).trans rfl
  have a2 : V.cell? ⟨g, 7, none⟩ = some (.int .i64 L.x1.f2) := (blk_cell HD.out.blk 7).trans rfl
  have a3 : V.cell? ⟨g, 8, none⟩ = some (.slice A0 L.x1.f3.length c0) := (blk_cell HD.out.blk 8).trans rfl
  have a4 : V.cell? ⟨g, 9, none⟩ = some (.int .i64 L.x1.f4) := (blk_cell HD.out.blk 9).trans rfl
  have b0 : V.frozen? ⟨g, 5, none⟩ = false := blk_frozen HD.out.blk 5
  have b1 : V.frozen? ⟨g, 6, none⟩ = false := blk_frozen HD.out.blk 6
  have b2 : V.frozen? ⟨g, 7, none⟩ = false := blk_frozen HD.out.blk 7
  have b3 : V.frozen? ⟨g, 8, none⟩ = false := blk_frozen HD.out.blk 8
  have b4 : V.frozen? ⟨g, 9, none⟩ = false := blk_frozen HD.out.blk 9
  refine skip_ (w1 := ?_) (by rfl) rfl ?_ ?_
  rotate_left
  · go_simp
    rfl
  refine hK.out _ _ ?_
  clear hK K
  refine done_ (by kernel_rfl) ?_
  clear a0 a1 a2 a3 a4 b0 b1 b2 b3 b4
  replace HD := Aside0.mk (HD.out.setX1 (⟨L.x1.f0, R.o, R.f, R.l, R.w⟩ : S24) rfl)
  generalize (((((V.setCell { block := g, off := 5 } (Value.int .i64 L.x1.f0)).setCell { block := g, off := 6 } (Value.int .i64 R.o)).setCell { block := g, off := 7 } (Value.int .i64 R.f)).setCell { block := g, off := 8 } (Value.slice A1 R.l.length c1)).setCell { block := g, off := 9 } (Value.int .i64 R.w)) = w7 at HD ⊢
  cases hq : R.has with
  | false =>
    have y1 : w7.cell? ⟨gc, 1, none⟩ = some (.bool false) := by rw [← hq]; exact (blk_cell HD.out.ce 1).trans rfl
    obtain ⟨ff, hev, _⟩ := HD.out.ev
    have HE7 : Aside0 (Ends b w7 g { L with x1 := (⟨L.x1.f0, R.o, R.f, R.l, R.w⟩ : S24) }) := ⟨⟨ff, _, _, _, _, _, _, _, hev⟩⟩
    have HQ := Aside0.mk hq
    clear hev hq
    have y0 : w7.cell? ⟨gp, 0, none⟩ = some (.int .i64 1) := (blk_cell HD.out.bp 0).trans rfl
    have y2 : w7.cell? ⟨gc, 2, none⟩ = some (.string R.reply) := (blk_cell HD.out.ce 2).trans rfl
    have z0 : wrap64 (1 - 1) = 0 := by unfold wrap64; omega
    go_wp2_with fail
    (with_reducible refine (ends_send.calls b g _ (⟨0, R.reply, false⟩ : S65) _ HE7.out HD.out.hs).mono ?_)
    rintro e wz ⟨rfl, hez, hbz⟩
    go_wp2
    refine bodyPost_end (results_none rfl _ _ _) rfl ?_
    exact ⟨rfl, by unfold LS.comes1; rw [if_neg (by rw [HQ.out]; decide)]; exact hez, (HD.out.hb).trans hbz⟩
  | true =>
    have y1 : w7.cell? ⟨gc, 1, none⟩ = some (.bool true) := by rw [← hq]; exact (blk_cell HD.out.ce 1).trans rfl
    have HQ := Aside0.mk hq
    clear hq
    go_upto_region 4 with (fail)
    replace HD := Aside0.mk HD.out.drew
    clear y1
    obtain ⟨ff, hev, hfp, _, hfc, _⟩ := HD.out.ev
    have HEV := Aside0.mk hev
    have HF := Aside0.mk (And.intro hfp hfc)
    clear hev hfp hfc
    refine start_ (n := 18) (S := fun w' => w'.cell? ⟨gp, 0, none⟩ = some (.int .i64 1) ∧ w'.cell? ⟨g, 14, none⟩ = some (.slice Ar L.c1.length cr) ∧ w'.cell? ⟨gc, 0, none⟩ = some (.string R.s)) (ds := [17]) #[false, false, false, false, false, false, false, false, false, false, false, false, false, false, false, false, false, false] (by kernel_rfl) rfl rfl ⟨((blk_cell HD.out.bp 0).trans rfl), ((blk_cell HD.out.blk 14).trans rfl), ((blk_cell HD.out.ce 0).trans rfl)⟩ (fun hHeld => ?_)
    generalize World.drew w7 = V at HD HEV hHeld ⊢
    refine pure_ (i := 0) (N := some 28) (v := ?_) (a' := ?_) #[true, false, false, false, false, false, false, false, false, false, false, false, false, false, false, false, false, false] rfl rfl (by kernel_rfl) (fun _ _ _ h => h) (Or.inl ⟨by rfl, ?_⟩) ?_ ?_
    rotate_left
    · intro w'
      go_simp
      with_reducible rfl
    rotate_left
    · exact put_
    refine pure_ (i := 1) (N := some 29) (v := ?_) (a' := ?_) #[true, true, false, false, false, false, false, false, false, false, false, false, false, false, false, false, false, false] rfl rfl (by kernel_rfl) (fun _ _ _ h => h) (Or.inl ⟨by rfl, ?_⟩) ?_ ?_
    rotate_left
    · intro w'
      go_simp
      with_reducible rfl
    rotate_left
    · exact put_
    refine pure_ (i := 3) (N := some 31) (v := ?_) (a' := ?_) #[true, true, false, true, false, false, false, false, false, false, false, false, false, false, false, false, false, false] rfl rfl (by kernel_rfl) (fun _ _ _ h => h) (Or.inl ⟨by rfl, ?_⟩) ?_ ?_
    rotate_left
    · intro w'
      go_simp
      with_reducible rfl
    rotate_left
    · exact put_
    refine pure_ (i := 4) (N := some 32) (v := ?_) (a' := ?_) #[true, true, false, true, true, false, false, false, false, false, false, false, false, false, false, false, false, false] rfl rfl (by kernel_rfl) (fun _ _ _ h => h) (Or.inl ⟨by rfl, ?_⟩) ?_ ?_
    rotate_left
    · intro w'
      go_simp
      with_reducible rfl
    rotate_left
    · exact put_
    refine pure_ (i := 6) (N := some 34) (v := ?_) (a' := ?_) #[true, true, false, true, true, false, true, false, false, false, false, false, false, false, false, false, false, false] rfl rfl (by kernel_rfl) (fun _ _ _ h => h) (Or.inl ⟨by rfl, ?_⟩) ?_ ?_
    rotate_left
    · intro w'
      go_simp
      with_reducible rfl
    rotate_left
    · exact put_
    refine pure_ (i := 7) (N := some 35) (v := ?_) (a' := ?_) #[true, true, false, true, true, false, true, true, false, false, false, false, false, false, false, false, false, false] rfl rfl (by kernel_rfl) (fun _ _ _ h => h) (Or.inl ⟨by rfl, ?_⟩) ?_ ?_
    rotate_left
    · intro w'
      go_simp
      with_reducible rfl
    rotate_left
    · exact put_
    refine pure_ (i := 10) (N := some 38) (v := ?_) (a' := ?_) #[true, true, false, true, true, false, true, true, false, false, true, false, false, false, false, false, false, false] rfl rfl (by kernel_rfl) (fun _ _ _ h => h) (Or.inl ⟨by rfl, ?_⟩) ?_ ?_
    rotate_left
    · intro w'
      go_simp
      with_reducible rfl
    rotate_left
    · exact put_
    refine pure_ (i := 14) (N := some 42) (v := ?_) (a' := ?_) #[true, true, false, true, true, false, true, true, false, false, true, false, false, false, true, false, false, false] rfl rfl (by kernel_rfl) (fun _ _ _ h => h) (Or.inl ⟨by rfl, ?_⟩) ?_ ?_
    rotate_left
    · intro w'
      go_simp
      with_reducible rfl
    rotate_left
    · exact put_
    refine pure_ (i := 15) (N := some 43) (v := ?_) (a' := ?_) #[true, true, false, true, true, false, true, true, false, false, true, false, false, false, true, true, false, false] rfl rfl (by kernel_rfl) (fun _ _ _ h => h) (Or.inl ⟨by rfl, ?_⟩) ?_ ?_
    rotate_left
    · intro w'
      go_simp
      with_reducible rfl
    rotate_left
    · exact put_
    refine take_ (i := 2) (N := some 30) (v := ?_) (a' := ?_) #[true, true, true, true, true, false, true, true, false, false, true, false, false, false, true, true, false, false] rfl rfl (by kernel_rfl) (fun _ _ _ h => h) (Or.inl ⟨by rfl, ?_⟩) hHeld ?_ ?_
    rotate_left
    · rintro w' ⟨s0, s1, s2⟩
      go_simp
      with_reducible rfl
    rotate_left
    · exact put_
    refine take_ (i := 5) (N := some 33) (v := ?_) (a' := ?_) #[true, true, true, true, true, true, true, true, false, false, true, false, false, false, true, true, false, false] rfl rfl (by kernel_rfl) (fun _ _ _ h => h) (Or.inl ⟨by rfl, ?_⟩) hHeld ?_ ?_
    rotate_left
    · rintro w' ⟨s0, s1, s2⟩
      go_simp
      with_reducible rfl
    rotate_left
    · exact put_
    refine pure_ (i := 8) (N := some 36) (v := ?_) (a' := ?_) #[true, true, true, true, true, true, true, true, true, false, true, false, false, false, true, true, false, false] rfl rfl (by kernel_rfl) (fun _ _ _ h => h) (Or.inl ⟨by rfl, ?_⟩) ?_ ?_
    rotate_left
    · intro w'
      go_simp
      with_reducible rfl
    rotate_left
    · exact put_
    refine take_ (i := 9) (N := some 37) (v := ?_) (a' := ?_) #[true, true, true, true, true, true, true, true, true, true, true, false, false, false, true, true, false, false] rfl rfl (by kernel_rfl) (fun _ _ _ h => h) (Or.inl ⟨by rfl, ?_⟩) hHeld ?_ ?_
    rotate_left
    · rintro w' ⟨s0, s1, s2⟩
      go_simp
      with_reducible rfl
    rotate_left
    · exact put_
    refine take_ (i := 11) (N := some 39) (v := ?_) (a' := ?_) #[true, true, true, true, true, true, true, true, true, true, true, true, false, false, true, true, false, false] rfl rfl (by kernel_rfl) (fun _ _ _ h => h) (Or.inl ⟨by rfl, ?_⟩) hHeld ?_ ?_
    rotate_left
    · rintro w' ⟨s0, s1, s2⟩
      go_simp
      with_reducible rfl
    rotate_left
    · exact put_
    refine one_ (i := 12) (N := some 40) #[true, true, true, true, true, true, true, true, true, true, true, true, true, false, true, true, false, false] rfl rfl (by kernel_rfl) (by decide) (fun K hK => ?_)
    refine value_ (w1 := ?_) (v := ?_) (by rfl) rfl ?_ ?_
    rotate_left 2
    · go_simp
      constructor
      · rfl
      · rfl
    refine hK.out _ _ ⟨((blk_cell (blk_alloc HD.out.bp _) 0).trans rfl), ((blk_cell (blk_alloc HD.out.blk _) 14).trans rfl), ((blk_cell (blk_alloc HD.out.ce _) 0).trans rfl)⟩ (fun hHeld => ?_)
    clear hK K
    refine norm_ (a' := ?_) ?_ ?_
    rotate_left
    · show Act.put _ (some 40) _ = _
      exact put_
    refine one_ (i := 13) (N := some 41) #[true, true, true, true, true, true, true, true, true, true, true, true, true, true, true, true, false, false] rfl rfl (by kernel_rfl) (by decide) (fun K hK => ?_)
    refine Kd.R_append_step Kd.string (w0 := w) b (by rfl) (.tmp 37) (.tmp 40) 22 9 (.string ⟨#[]⟩) 16 rfl Try.underlying22 info9 rfl (by decide) (by omega) (.slice Ar L.c1.length cr) L.c1 R.s [.string R.s] (fun k => ff k = 6 ∨ V.heap.size ≤ k) (fun _ => False) rfl rfl ?aP (fun _ hk => hk.elim) ?aF ?aO ?aB ?aS ?aL ?_
    (case aP => exact rfl)
    (case aB => exact HD.out.hb)
    (case aF => exact (fun _ hk => .inr hk))
    (case aO => exact Kd.R_mono HEV.out.hc1 (fun _ hk => .inl hk))
    (case aS => exact HD.out.hs)
    (case aL => have := HLC.out; show (L.c1.length + 1) * 16 ≤ 140737488355328; omega)
    intro vz w8 ho hbb hg hat
    obtain ⟨A3, c3, rfl⟩ := Kd.R_slice ho
    have HO := Aside0.mk ho
    have HB8 := Aside0.mk hbb
    have HG := Aside0.mk hg
    have HFF := HF.out
    have HP8 := Aside0.mk (blk_grown HD.out.bp hg (fun e => by have h5 : ff gp = 6 := HEV.out.hc1.1 gp e.symm; have h9 : ff gp = 9 := HFF.1; omega))
    have HC8 := Aside0.mk (blk_grown HD.out.ce hg (fun e => by have h5 : ff gc = 6 := HEV.out.hc1.1 gc e.symm; have h9 : ff gc = 9 := HFF.2; omega))
    have HBK := Aside0.mk (blk_grown HEV.out.blk hg (fun e => by have h5 : ff g = 6 := HEV.out.hc1.1 g e.symm; have h9 : ff g = 7 := HEV.out.own; omega))
    clear ho hbb hg hat
    refine hK.out _ _ ⟨((blk_cell HP8.out 0).trans rfl), ((blk_cell HBK.out 14).trans rfl), ((blk_cell HC8.out 0).trans rfl)⟩ (fun hHeld => ?_)
    clear hK K
    refine norm_ (a' := ?_) ?_ ?_
    rotate_left
    · show Act.put _ (some 41) _ = _
      exact put_
    refine pure_ (i := 16) (N := some 44) (v := ?_) (a' := ?_) #[true, true, true, true, true, true, true, true, true, true, true, true, true, true, true, true, true, false] rfl rfl (by kernel_rfl) (fun _ _ _ h => h) (Or.inl ⟨by rfl, ?_⟩) ?_ ?_
    rotate_left
    · intro w'
      go_simp
      with_reducible rfl
    rotate_left
    · exact put_
    refine last_ (i := 17) (N := none) #[true, true, true, true, true, true, true, true, true, true, true, true, true, true, true, true, true, true] rfl rfl (by kernel_rfl) (by decide) (fun K hK => ?_)
    have hct : w8.cell? ⟨g, 14, none⟩ = some (.slice Ar L.c1.length cr) := (blk_cell HBK.out 14).trans rfl
    have hft : w8.frozen? ⟨g, 14, none⟩ = false := blk_frozen HBK.out 14
    refine skip_ (w1 := ?_) (by rfl) rfl ?_ ?_
    rotate_left
    · go_simp
      rfl
    refine hK.out _ _ ?_
    clear hK K
    refine done_ (by kernel_rfl) ?_
    have hlen : (L.c1 ++ [R.s]).length = L.c1.length + 1 := by simp
    obtain ⟨f9, hf9, he9⟩ := HEV.out.set_c1 HG.out HO.out
    rw [hlen] at he9
    have hgp : gp ≠ g := fun e => by have := HF.out.1; rw [e, HEV.out.own] at this; cases this
    have hgc : gc ≠ g := fun e => by have := HF.out.2; rw [e, HEV.out.own] at this; cases this
    have HP9 := Aside0.mk (blk_far (p := ⟨g, 14, none⟩) HP8.out hgp (.slice A3 (L.c1.length + 1) c3))
    have HC9 := Aside0.mk (blk_far (p := ⟨g, 14, none⟩) HC8.out hgc (.slice A3 (L.c1.length + 1) c3))
    have HB9 := Aside0.mk (HB8.out.setCell (p := ⟨g, 14, none⟩) HEV.out.low (.slice A3 (L.c1.length + 1) c3))
    have HE9 : Aside0 (Ends b _ g { L with x1 := (⟨L.x1.f0, R.o, R.f, R.l, R.w⟩ : S24), c1 := L.c1 ++ [R.s] }) := ⟨⟨f9, _, _, _, _, _, _, _, he9⟩⟩
    have HS9 := Aside0.mk (Nat.le_of_lt (Nat.lt_of_le_of_lt he9.low he9.lt))
    clear hgp hgc hlen he9 hf9
    generalize w8.setCell { block := g, off := 14 } (Value.slice A3 (L.c1.length + 1) c3) = w9 at HP9 HC9 HB9 HE9 HS9 ⊢
    have y0 : w9.cell? ⟨gp, 0, none⟩ = some (.int .i64 1) := (blk_cell HP9.out 0).trans rfl
    have y2 : w9.cell? ⟨gc, 2, none⟩ = some (.string R.reply) := (blk_cell HC9.out 2).trans rfl
    have z0 : wrap64 (1 - 1) = 0 := by unfold wrap64; omega
    go_wp2_with fail
    (with_reducible refine (ends_send.calls b g _ (⟨0, R.reply, false⟩ : S65) _ HE9.out HS9.out).mono ?_)
    rintro e wz ⟨rfl, hez, hbz⟩
    go_wp2
    refine bodyPost_end (results_none rfl _ _ _) rfl ?_
    exact ⟨rfl, by unfold LS.comes1; rw [if_pos HQ.out]; exact hez, (HB9.out).trans hbz⟩
end Go.Proofs.Ytgfmdfgibkkfaaa.P
