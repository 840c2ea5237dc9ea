import Derived.Test.YtecfndblgefhdaaKzRx5
import Derived.Test.YtecfndblgefhdaaKzDelA
set_option linter.unusedVariables false
set_option linter.unusedSimpArgs false
namespace Go.Proofs.Ytecfndblgefhdaa.R
open Go.RowKit Go.Proofs.YtecfndblgefhdaaW.PrintWords Go.Proofs.YtecfndblgefhdaaW.PrintLast Go.Proofs.YtecfndblgefhdaaW.PrintMore
attribute [local go_sem] max2_int min2_int max_two min_two max_three min_three max_four min_four
namespace Clr
open Go.Proofs.YtecfndblgefhdaaW.PrintWords.Kd
variable {α : Type} {d : Kd α} {e base g n cap : Nat} {ok : Nat → Prop} {W : World} {xs : List α}
theorem own_over {size m : Nat} {inner seg : List Value} {o : Nat} (h : W.ownsRow base e size (.slice (some ⟨g, 0, none⟩) m cap) m inner) (hil : inner.length = m * size) (ho : m * size ≤ o) (hs : o + seg.length ≤ cap * size) :
  (W.setCells g o seg).ownsRow base e size (.slice (some ⟨g, 0, none⟩) m cap) m inner ∧ W.grownBy (W.setCells g o seg) (some g) := by
 obtain ⟨ho1, ho2⟩ := h
 rcases ho2 with ⟨hv, _⟩ | ⟨g', cap', cur, hv, hb, hh, hnc', hcm, hcs, ht⟩
 ·cases hv
 injection hv with ha _ hc
 injection ha with ha
 injection ha with hg
 subst hg; subst hc
 obtain ⟨cur', h3, h4, h5⟩ := setCells_row seg o W cur hh (by rw [hcs]; exact hs)
 obtain ⟨s1, s2, s3, s4⟩ := setCells_same g seg o W
 refine ⟨⟨ho1, .inr ⟨g, cap, cur', rfl, hb, h3, hnc', hcm, by rw [h4, hcs], ?_⟩⟩, s1, s2, s3, by rw [s4]; exact Nat.le_refl _, fun k _ hk => setCells_far seg _ k (fun he => hk (by rw [he]))⟩
 rw [h5, List.append_assoc, List.take_append_of_le_length (by rw [List.length_take, Array.length_toList, hcs]; omega), List.take_take, Nat.min_eq_left ho]
 exact ht
theorem N_clear (h : N d e W base ok (.slice (some ⟨g, 0, none⟩) n cap) xs) {i : Nat} (hi : i ≤ n) {seg : List Value} (hs : seg.length = (n - i) * d.sz) :
  N d e (W.setCells g (i * d.sz) seg) base ok (.slice (some ⟨g, 0, none⟩) i cap) (xs.take i) ∧ W.grownBy (W.setCells g (i * d.sz) seg) (some g) := by
 have hn := (N_reads' h).1
 have hc := (N_reads' h).2.1
 have h2 := N_take (m := i) h z7_
 have hl2 : (xs.take i).length = i := by rw [List.length_take]; omega
 obtain ⟨h0, rows, hl, hR, hf⟩ := h2
 obtain ⟨hok, inner, ho, hr⟩ := hR
 rw [hl2] at hl
 have hil : inner.length = i * d.sz := by rw [hr.1, hl]; rfl
 rw [hl] at ho
 obtain ⟨q1, q2⟩ := own_over ho hil (Nat.le_refl (i * d.sz)) (seg := seg) (by
  rw [hs, ← Nat.add_mul]
  exact Nat.mul_le_mul_right _ z7_)
 have hgo : some g = (Value.slice (some ⟨g, 0, none⟩) i cap).ownBlock := by simp [Value.ownBlock]
 refine ⟨⟨h0, rows, by rw [hl, hl2], ⟨hok, inner, by rw [hl]; exact q1, hr⟩, fun j x c hx hcj => ?_⟩, q2⟩
 exact FK_step (hf j x c hx hcj) (fun k hk hlt => q2.block k hlt (by rw [hgo]; exact hk.2))
theorem run_clear {P : Program} (w : World) (t e ty : TypeId) (z : Value) {i : TypeInfo} (ht : P.underlying t = some (.slice e)) (hi : P.info? e = some i) (hz : i.zero = some z) (b o n c : Nat) (hn : 0 < n) (h0 : 0 < z.cells.size) (h1 : ∀ v ∈ z.cells, v.oneCell' = true)
  (hc : ∀ j, j < n * z.cells.size → (w.cell? ⟨b, o + j, none⟩).isSome = true) (hf : ∀ j, j < n * z.cells.size → w.frozen? ⟨b, o + j, none⟩ = false) :
  ∃ seg : List Value, seg.length = n * z.cells.size ∧ (Builtin.clear_ #[t] ty #[.slice (some ⟨b, o, none⟩) n c]).run P w = .ok (.tuple #[]) (w.setCells b o seg) := by
 have hl : (Builtin.zeroCells z.cells n).toList.length = n * z.cells.size := by simp [Builtin.zeroCells]
 refine ⟨_, hl, ?_⟩
 have hst := run_storeCells_cells (P := P) b o (Builtin.zeroCells z.cells n).toList 0 w (by rw [hl]; simpa using hc) (by rw [hl]; simpa using hf) (by
  intro v hv
  rw [Array.mem_toList_iff] at hv
  simp only [Builtin.zeroCells, Array.mem_map, Array.mem_range] at hv
  obtain ⟨q, _, rfl⟩ := hv
  rw [getElem!_pos z.cells _ (Nat.mod_lt _ h0)]
  exact h1 _ (Array.getElem_mem _))
 simp only [Nat.add_zero] at hst
 have hv : ∀ w, (zeroValue e).run P w = .ok z w := fun w => by simp [zeroValue, typeInfo, hi, hz]
 obtain ⟨m, rfl⟩ : ∃ m, n = m + 1 := ⟨n - 1, z7_⟩
 simp [Builtin.clear_, run_underlying ht, hv, hst]
theorem N_cells (h : N d e W base ok (.slice (some ⟨g, 0, none⟩) n cap) xs) (q : Nat) (hq : q < n * d.sz) : (W.cell? ⟨g, q, none⟩).isSome = true ∧ W.frozen? ⟨g, q, none⟩ = false := by
 obtain ⟨_, rows, hl, hR, _⟩ := h
 have hn := (R_reads' hR).1
 obtain ⟨_, inner, ho, hr⟩ := hR
 have hil : inner.length = n * d.sz := by rw [hr.1, hn]; rfl
 have := ho.cells (g := g) z154_ q _ (List.getElem?_eq_getElem z7_)
 rw [add_plain] at this
 obtain ⟨cells, hc⟩ := own_typed ho g z154_
 exact ⟨by rw [this]; rfl, blk_frozen hc _⟩
end Clr
theorem stays_here {α : Type} {p : α → Bool} {l ys : List α} {i j : Nat} (h1 : ys.take i = (l.take j).filter p) (h2 : ys.drop j = l.drop j) (hj : j < l.length) (hl : ys.length = l.length) (hij : i < j) (hp : p l[j] = true) :
  (ys.set i l[j]).take (i + 1) = (l.take (j + 1)).filter p ∧ (ys.set i l[j]).drop (j + 1) = l.drop (j + 1) := by
 constructor
 ·rw [List.take_succ_eq_append_getElem (by rw [List.length_set]; omega), List.getElem_set_self, List.take_set, List.set_eq_of_length_le z145_, h1, List.take_succ_eq_append_getElem hj, List.filter_append, List.filter_cons, if_pos hp, List.filter_nil]
 ·rw [List.drop_set, if_pos z7_, ← List.drop_drop, h2, List.drop_drop]
theorem goes_here {α : Type} {p : α → Bool} {l ys : List α} {i j : Nat} (h1 : ys.take i = (l.take j).filter p) (h2 : ys.drop j = l.drop j) (hj : j < l.length) (hp : p l[j] = false) :
  ys.take i = (l.take (j + 1)).filter p ∧ ys.drop (j + 1) = l.drop (j + 1) := by
 constructor
 ·rw [h1, List.take_succ_eq_append_getElem hj, List.filter_append, List.filter_cons, if_neg (by rw [hp]; decide), List.filter_nil, List.append_nil]
 ·rw [← List.drop_drop, h2, List.drop_drop]
theorem at_j {α : Type} {l ys : List α} {j : Nat} (h2 : ys.drop j = l.drop j) (hj : j < l.length) (z : α) : ys.getD j z = l[j] := by
 have h := congrArg (fun t => t[0]?) h2
 simp only [List.getElem?_drop, Nat.add_zero] at h
 rw [List.getD_eq_getElem?_getD, h, List.getElem?_eq_getElem hj]
 rfl
theorem firstAt_all {α : Type} (p : α → Bool) : ∀ (l : List α) (n : Nat), firstAt p l n = -1 ∧ l.filter (fun s => !p s) = l ∨ ∃ m, m < l.length ∧ firstAt p l n = ((n + m : Nat) : Int) ∧ l.take m = (l.take (m + 1)).filter (fun s => !p s)
 | [], n => .inl ⟨rfl, rfl⟩
 | s :: r, n => by
  rw [firstAt]
  cases hp : p s with
  | true => exact .inr ⟨0, by simp, by rw [if_pos rfl]; rfl, by simp [hp]⟩
  | false =>
   rw [if_neg z8_, show ((n : Int) + 1) = ((n + 1 : Nat) : Int) from z7_]
   rcases firstAt_all p r (n + 1) with ⟨h1, h2⟩ | ⟨m, h1, h2, h3⟩
   ·exact .inl ⟨h1, by rw [List.filter_cons, hp, Bool.not_false, if_pos rfl, h2]⟩
   ·refine .inr ⟨m + 1, by simp; omega, by rw [h2]; congr 1; omega, ?_⟩
    rw [List.take_succ_cons, h3, List.take_succ_cons, List.filter_cons, hp, Bool.not_false, if_pos rfl]
theorem grown_step {a w w' : World} {g : Nat} (h : a.grownBy w (some g)) (hb : Below w.heap.size w w') : a.grownBy w' (some g) :=
 ⟨hb.os.trans h.os, hb.tape.trans h.tape, hb.output.trans h.output, Nat.le_trans h.size hb.size, fun k hk hne => (hb.block k (Nat.lt_of_lt_of_le hk h.size)).trans (h.block k hk hne)⟩
theorem grown_more {a w w' : World} {g : Nat} (h : a.grownBy w (some g)) (hb : w.grownBy w' (some g)) : a.grownBy w' (some g) :=
 ⟨hb.os.trans h.os, hb.tape.trans h.tape, hb.output.trans h.output, Nat.le_trans h.size hb.size, fun k hk hne => (hb.block k (Nat.lt_of_lt_of_le hk h.size) hne).trans (h.block k hk hne)⟩
theorem infoMark : (Try.prog.info? 141).map (fun i => (i.zero, i.size, i.bytes)) = some (some (.agg #[.int .i64 0, .int .i64 0]), 2, 16) := by kernel_rfl
theorem noteAfter (s : S141) (A1 : Option Addr) (c1 : Nat) (l1 : List S120) (ga : Nat) (r : Bool) (w0 : World) {gb : Nat} {W : World} (hbk : W.heap[gb]? = some (.cells #[.int .i64 s.f0, .int .i64 s.f1] 141 (0, 0))) (hb : Below w0.heap.size w0 W) (hc : w0.cell? ⟨ga, 0, none⟩ = some (.slice A1 l1.length c1)) (hr1 : Kd.C k120 w0 A1 l1.length l1) (hr : named l1 s.f0 s.f1 = r) :
  Calls Try.prog 64 #[.agg #[.int .i64 s.f0, .int .i64 s.f1], .pointer (some ⟨ga, 0, none⟩)] W fun e w' => e = .returned (.bool r) ∧ w'.heap[gb]? = some (.cells #[.int .i64 s.f0, .int .i64 s.f1] 141 (0, 0)) ∧ Below w0.heap.size w0 w' :=
 (snap_Note_1.calls A1 c1 l1 s.f0 s.f1 ga r W W (Kd.C_below hr1 hb) ((hb.cell (World.block_lt_of_cell? w0 _ hc)).trans hc) (Below.refl _ _) hr).mono fun e w' ⟨h1, h2⟩ => ⟨h1, blk_below hbk h2, below_step hb h2⟩
set_option maxHeartbeats 4000000 in
set_option maxRecDepth 100000 in
theorem delMarks.calls (v : Value) (l : List S141) (ga : Nat) (A1 : Option Addr) (c1 : Nat) (l1 : List S120) (base : Nat) (ok : Nat → Prop) (w : World) (hc : w.cell? ⟨ga, 0, none⟩ = some (.slice A1 l1.length c1)) (hr1 : Kd.F k120 w (fun k => ¬ ok k) A1 l1.length l1) (hne : ∀ k, ok k → k ≠ ga ∧ True) (hv : Kd.N k141 141 w base ok v l) :
  Calls Try.prog 63 #[v, .func (.func 64) #[] #[.pointer (some ⟨ga, 0, none⟩)]] w fun e w' => ∃ v1 : Value, e = .returned v1 ∧ Kd.N k141 141 w' base ok v1 (l.filter fun s => !(named l1 s.f0 s.f1)) ∧ w.grownBy w' v.ownBlock := by
 obtain ⟨A, c, rfl, hlc, hC⟩ := Kd.N_reads hv
 have hidx := idxMarks.calls A c l w w hC (Below.refl _ _) ga A1 c1 l1 (Kd.F_now hr1) hc
 rcases firstAt_all (fun s => named l1 s.f0 s.f1) l 0 with ⟨h1, h2⟩ | ⟨m, h1, h2, h3⟩
 ·rw [show ((0 : Nat) : Int) = 0 from rfl] at h1
  rw [h1] at hidx
  rw [h2]
  have HV := a0_ hv
  have HI := a0_ hidx
  clear hv hidx h1 h2 hC hr1 hc hne
  have eg : ∀ args w, (callFunc 94 args).run Try.prog w = .ok (.enter 94 args) w := enters_of Try.func94 z6_ rfl
  go_enter Try.func63, Try.ntmps63
  go_wp2_with (go_at_fn 94; refine HI.out.mono ?_; rintro e w2 ⟨rfl, hb⟩; have HB2 := a0_ hb; clear hb)
  go_ret
  exact ⟨_, rfl, Kd.N_below HV.out HB2.out, grown_of_below HB2.out _⟩
 ·rw [show ((0 : Nat) : Int) = 0 from rfl, Nat.zero_add] at h2
  rw [h2] at hidx
  obtain ⟨gr, cap, e1, hb1, hb2, cells, hcells⟩ := Kd.N_form hv z7_
  injection e1 with e1 e2 e3
  subst e1
  subst e3
  have hmax : l.length ≤ 9223372036854775807 := hC.2.1
  have hnm1 : ((m : Int) == -1) = false := beq_eq_false_iff_ne.2 z7_
  have HV := a0_ hv
  have HI := a0_ hidx
  have HF := a0_ h3
  have HC := a0_ hc
  have HR1 := a0_ hr1
  have HN : Aside0 (ga ≠ gr) := ⟨fun h => (hne gr (hv.1 gr rfl)).1 h.symm⟩
  have HM : Aside0 (∀ k, k < w.heap.size → ¬ ok k → some k ≠ some gr) := ⟨fun k _ h1 h2 => h1 (by injection h2 with h2; subst h2; exact hv.1 _ rfl)⟩
  have HO : Aside0 (Kd.F k120 w (fun k => k ≠ gr) A1 l1.length l1) := ⟨Kd.F_mono hr1 (fun k hk => fun h => hk (by rw [h]; exact hv.1 _ rfl))⟩
  clear hc hne hr1
  clear hv hidx h2 h3 hC cells hcells hb1 hb2 e2
  have eg : ∀ args w, (callFunc 94 args).run Try.prog w = .ok (.enter 94 args) w := enters_of Try.func94 z6_ rfl
  have eg2 : ∀ args w, (callFunc 64 args).run Try.prog w = .ok (.enter 64 args) w := enters_of Try.func64 z6_ rfl
  go_enter Try.func63, Try.ntmps63
  go_wp2_with (go_at_fn 94; refine HI.out.mono ?_; rintro e w2 ⟨rfl, hb⟩; have HB2 := a0_ hb; clear hb)
  go_loopw [5, 6, 7] (fun v5 v6 _ wr => ∃ (i j : Nat) (ys : List S141), v5 = .int .i64 i ∧ v6 = .int .i64 j ∧ i < j ∧ j ≤ l.length ∧ ys.length = l.length ∧ Aside0 (Kd.N k141 141 wr base ok (.slice (some ⟨gr, 0, none⟩) l.length c) ys) ∧ Aside0 (ys.take i = (l.take j).filter (fun s => !(named l1 s.f0 s.f1))) ∧ Aside0 (ys.drop j = l.drop j) ∧ Aside0 (w.grownBy wr (some gr))) (fun _ v6 _ _ => l.length - (intOf v6).toNat)
  case atStart => exact ⟨m, m + 1, l, rfl, z9_, z7_, z7_, rfl, ⟨Kd.N_below HV.out HB2.out⟩, ⟨HF.out⟩, ⟨rfl⟩, ⟨grown_of_below HB2.out _⟩⟩
  case round =>
   obtain ⟨i, j, ys, rfl, rfl, hij, hjl, hyl, NS, P1, P2, HG⟩ := hrel
   clear HB2 HV HI HF
   by_cases hlt : j < l.length
   ·have hltz : (j : Int) < (l.length : Int) := by omega
    obtain ⟨cj, hclj, hKj, hccj, _⟩ := Kd.N_elem NS.out z141 (j : Int) z7_ z7_
    have KJ := a0_ hKj
    rw [Int.toNat_natCast] at hKj hccj
    rw [at_j P2.out hlt] at hKj
    have PS : Aside0 (ys.getD ((j : Int)).toNat z141 = l[j]) := ⟨by rw [Int.toNat_natCast]; exact at_j P2.out hlt _⟩
    obtain rfl := k141_open (Kd.FK_now hKj)
    have hcr0 : wr.cell? ⟨gr, j * 2, none⟩ = some (.int .i64 l[j].f0) := hccj 0 _ rfl; have hcr1 : wr.cell? ⟨gr, j * 2 + 1, none⟩ = some (.int .i64 l[j].f1) := hccj 1 _ rfl
    clear hclj hccj hKj
    have Q1 : Aside0 (_ ∧ _) := ⟨P1.out, P2.out⟩
    clear P1 P2
    generalize hs : l[j] = s at *
    have HS := a0_ hs
    clear hs
    cases hp : named l1 s.f0 s.f1 with
    | true =>
     go_wp2_with (first | ((with_reducible refine gate_dst (N := 7) rfl ?_); refine box_event ?hg (N := 7) ?hd (cs := #[.int .i64 0, .int .i64 0]) (t := 141) ?hr ?_; (case hd => rfl); (case hg => rfl); (case hr => exact z30_); intro gb hg w5 hbox hb; have GE := a0_ (z40_ : wr.heap.size ≤ gb); have HB5 := a0_ hb; have BK := a0_ hbox; clear hb hbox hg; have hcz0 : w5.cell? ⟨gb, 0, none⟩ = some (.int .i64 0) := (blk_cell BK.out 0).trans rfl; have hfz0 := blk_frozen BK.out 0; have hcz1 : w5.cell? ⟨gb, 1, none⟩ = some (.int .i64 0) := (blk_cell BK.out 1).trans rfl; have hfz1 := blk_frozen BK.out 1) | (go_at_fn 64; refine ((noteAfter s A1 c1 l1 ga _ wr (W := (World.setCell (World.setCell w5 ⟨gb, 0, none⟩ (.int .i64 s.f0)) ⟨gb, 1, none⟩ (.int .i64 s.f1))) (blk_put (cs' := #[.int .i64 s.f0, .int .i64 s.f1]) (blk_put (cs' := #[.int .i64 s.f0, .int .i64 0]) (BK.out) 0 _ rfl) 1 _ rfl) (below_set (below_set (HB5.out) GE.out) GE.out)) (HG.out.cell HC.out (fun h => HN.out (by injection h))) (Kd.F_now (Kd.F_grown HO.out HG.out (fun k hk => fun he => hk (by injection he)))) hp).mono ?_; rintro e w9 ⟨rfl, hbk, hb9⟩; have HB9 := a0_ hb9; have BK9 := a0_ hbk; clear hbk hb9))
     go_roundw
     case measure => simp [intOf]; omega
     case rel =>
      obtain ⟨q1, q2⟩ := goes_here Q1.out.1 Q1.out.2 hlt (by show (!(named l1 l[j].f0 l[j].f1)) = false; rw [HS.out, hp]; rfl)
      exact ⟨i, j + 1, ys, rfl, z9_, z7_, z7_, hyl, ⟨Kd.N_below NS.out HB9.out⟩, ⟨q1⟩, ⟨q2⟩, ⟨grown_step HG.out HB9.out⟩⟩
    | false =>
     go_wp2_with (first | ((with_reducible refine gate_dst (N := 7) rfl ?_); refine box_event ?hg (N := 7) ?hd (cs := #[.int .i64 0, .int .i64 0]) (t := 141) ?hr ?_; (case hd => rfl); (case hg => rfl); (case hr => exact z30_); intro gb hg w5 hbox hb; have GE := a0_ (z40_ : wr.heap.size ≤ gb); have HB5 := a0_ hb; have BK := a0_ hbox; clear hb hbox hg; have hcz0 : w5.cell? ⟨gb, 0, none⟩ = some (.int .i64 0) := (blk_cell BK.out 0).trans rfl; have hfz0 := blk_frozen BK.out 0; have hcz1 : w5.cell? ⟨gb, 1, none⟩ = some (.int .i64 0) := (blk_cell BK.out 1).trans rfl; have hfz1 := blk_frozen BK.out 1) | (go_at_fn 64; refine ((noteAfter s A1 c1 l1 ga _ wr (W := (World.setCell (World.setCell w5 ⟨gb, 0, none⟩ (.int .i64 s.f0)) ⟨gb, 1, none⟩ (.int .i64 s.f1))) (blk_put (cs' := #[.int .i64 s.f0, .int .i64 s.f1]) (blk_put (cs' := #[.int .i64 s.f0, .int .i64 0]) (BK.out) 0 _ rfl) 1 _ rfl) (below_set (below_set (HB5.out) GE.out) GE.out)) (HG.out.cell HC.out (fun h => HN.out (by injection h))) (Kd.F_now (Kd.F_grown HO.out HG.out (fun k hk => fun he => hk (by injection he)))) hp).mono ?_; rintro e w9 ⟨rfl, hbk, hb9⟩; have HB9 := a0_ hb9; have BK9 := a0_ hbk; clear hbk hb9; have hcv0 : w9.cell? ⟨gb, 0, none⟩ = some (.int .i64 s.f0) := (blk_cell BK9.out 0).trans rfl; have hcv1 : w9.cell? ⟨gb, 1, none⟩ = some (.int .i64 s.f1) := (blk_cell BK9.out 1).trans rfl; have N9 := a0_ (Kd.N_below NS.out HB9.out); obtain ⟨ci, hcli, hKi, hcci, hfri⟩ := Kd.N_elem N9.out z141 (i : Int) z7_ z7_; obtain rfl := k141_open (Kd.FK_now hKi); rw [Int.toNat_natCast] at hcci hfri; have hcw0 : w9.cell? ⟨gr, i * 2, none⟩ = some (.int .i64 (ys.getD i z141).f0) := hcci 0 _ rfl; have hfw0 : w9.frozen? ⟨gr, i * 2, none⟩ = false := hfri 0; have hcw1 : w9.cell? ⟨gr, i * 2 + 1, none⟩ = some (.int .i64 (ys.getD i z141).f1) := hcci 1 _ rfl; have hfw1 : w9.frozen? ⟨gr, i * 2 + 1, none⟩ = false := hfri 1; clear hcli hKi hcci hfri))
     go_roundw
     case measure => simp [intOf]; omega
     case rel =>
      obtain ⟨q1, q2⟩ := stays_here Q1.out.1 Q1.out.2 hlt hyl hij (by show (!(named l1 l[j].f0 l[j].f1)) = true; rw [HS.out, hp]; rfl)
      rw [HS.out] at q1 q2
      have KJ2 := KJ.out
      rw [PS.out] at KJ2
      obtain ⟨ci, hcli, hKi, hcci, hfri⟩ := Kd.N_elem N9.out z141 (i : Int) z7_ z7_
      have hN := Kd.N_seg N9.out (i : Int) z7_ z7_ (c := ci) (seg := [.int .i64 s.f0, .int .i64 s.f1]) (j := 0) hcli hcci (Nat.le_of_eq rfl) (x' := s) (okp := fun k => ok k ∧ k ≠ gr) (by rw [List.take_zero, List.nil_append, List.drop_of_length_le (by rw [hcli]; exact Nat.le_of_eq rfl), List.append_nil]; exact Kd.FK_below KJ2 HB9.out) (fun k hk => hk)
      rw [Int.toNat_natCast] at hN
      exact ⟨i + 1, j + 1, _, z9_, z9_, z7_, z7_, by rw [List.length_set]; exact hyl, ⟨hN.1⟩, ⟨q1⟩, ⟨q2⟩, ⟨grown_more (grown_step HG.out HB9.out) hN.2⟩⟩
   ·obtain rfl : j = l.length := by omega
    have hltz : ¬ (l.length : Int) < (l.length : Int) := by omega
    have q1 := P1.out
    rw [List.take_length] at q1
    have hi2 : i < l.length := by omega
    have HQ := a0_ q1
    clear q1 P1 P2
    obtain ⟨i0, hi0, hzz⟩ := Option.map_eq_some_iff.1 infoMark
    simp only [Prod.mk.injEq] at hzz
    have hcl : ∃ seg : List Value, seg.length = (l.length - i) * 2 ∧ ∀ ty, (Builtin.clear_ #[83] ty #[.slice (some ⟨gr, i * 2, none⟩) (l.length - i) (c - i)]).run Try.prog wr = .ok (.tuple #[]) (wr.setCells gr (i * 2) seg) := by
     have hcell : ∀ q, q < (l.length - i) * 2 → (wr.cell? ⟨gr, i * 2 + q, none⟩).isSome = true ∧ wr.frozen? ⟨gr, i * 2 + q, none⟩ = false := fun q hq => Clr.N_cells NS.out (i * 2 + q) (show _ < l.length * 2 from z7_)
     obtain ⟨seg, s1, s2⟩ := Clr.run_clear wr 83 141 0 _ Try.underlying83 hi0 hzz.1 gr (i * 2) (l.length - i) (c - i) z7_ (show 0 < 2 from z8_) (by intro v hv; simp [Value.cells] at hv; (repeat' (first | (rcases hv with rfl | hv) | subst hv)) <;> rfl) (fun q hq => (hcell q hq).1) (fun q hq => (hcell q hq).2)
     exact ⟨seg, s1, fun ty => s2⟩
    obtain ⟨seg, hsl, hcl⟩ := hcl
    have HSL := a0_ hsl
    clear hsl hzz hi0
    go_wp2
    go_ret
    obtain ⟨r1, r2⟩ := Clr.N_clear NS.out (i := i) z7_ (seg := seg) HSL.out
    rw [HQ.out] at r1
    have hil : i = (l.filter fun s => !(named l1 s.f0 s.f1)).length := by rw [← HQ.out, List.length_take]; omega
    exact ⟨_, rfl, r1, grown_more HG.out r2⟩
end Go.Proofs.Ytecfndblgefhdaa.R
