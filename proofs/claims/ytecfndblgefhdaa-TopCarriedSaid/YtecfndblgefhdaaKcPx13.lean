import Derived.Test.YtecfndblgefhdaaKcPx12
namespace Go.Proofs.Ytecfndblgefhdaa.P
open Go.RowKit Go.Proofs.YtecfndblgefhdaaW.PrintWords Go.Proofs.YtecfndblgefhdaaW.PrintLast Go.Proofs.YtecfndblgefhdaaW.PrintMore
attribute [local go_sem] max2_int min2_int max_two min_two max_three min_three max_four min_four
set_option linter.unusedVariables false
set_option linter.unusedSimpArgs false
theorem qpx130_ {p : Prop} (h : p := by exact bodyPost_ret (results_ct rfl _ _ w.heap.size 150 #[.int .i64 0, .int .i64 0, .int .i64 0, .int .i64 0, .int .i64 0, .string (⟨#[]⟩ : ByteArray)] (0, 0) _ rfl (blk_put (blk_put (blk_put (blk_put (blk_put (blk_put BR.out 0 _ rfl) 1 _ rfl) 2 _ rfl) 3 _ rfl) 4 _ rfl) 5 _ rfl) Try.underlying150 rfl z11_) rfl ⟨rfl, below_set (below_set (below_set (below_set (below_set (below_set HB1.out (Nat.le_refl _)) (Nat.le_refl _)) (Nat.le_refl _)) (Nat.le_refl _)) (Nat.le_refl _)) (Nat.le_refl _)⟩) : p := h
def link_read.ok (kind epoch number : Int) (piece : ByteArray) : Bool := decide (piece.size ≤ 512) && (decide (kind = 1) || decide (piece.size = 0) && decide (number = 0)) && decide (1 ≤ epoch ∧ epoch ≤ 1099511627776)
def link_read.no : Int × Int × Int × Int × Int × ByteArray × Bool := (0, 0, 0, 0, 0, (⟨#[]⟩ : ByteArray), false)
def link_read.s3 (k : Nat) (kind x0 x1 x2 : Int) (b : ByteArray) : Option (Int × Int × Int × Int × Int × ByteArray × Bool) := (octet_Number.f k b 8).bind fun n => if n.2.2 = 0 then some (kind, x0, x1, x2, n.1, n.2.1, link_read.ok kind x0 x2 n.2.1) else some link_read.no
def link_read.s2 (k : Nat) (kind x0 x1 : Int) (b : ByteArray) : Option (Int × Int × Int × Int × Int × ByteArray × Bool) := (octet_Number.f k b 8).bind fun n => if n.2.2 = 0 then link_read.s3 k kind x0 x1 n.1 n.2.1 else some link_read.no
def link_read.s1 (k : Nat) (kind x0 : Int) (b : ByteArray) : Option (Int × Int × Int × Int × Int × ByteArray × Bool) := (octet_Number.f k b 8).bind fun n => if n.2.2 = 0 then link_read.s2 k kind x0 n.1 n.2.1 else some link_read.no
def link_read.s0 (k : Nat) (kind : Int) (b : ByteArray) : Option (Int × Int × Int × Int × Int × ByteArray × Bool) := (octet_Number.f k b 8).bind fun n => if n.2.2 = 0 then link_read.s1 k kind n.1 n.2.1 else some link_read.no
def link_read.f (k : Nat) (a0 : ByteArray) : Option (Int × Int × Int × Int × Int × ByteArray × Bool) := (frame_Open.f k a0).bind fun o => if o.2.2 = 0 then (if o.1 = 1 ∨ o.1 = 2 then link_read.s0 k o.1 o.2.1 else some link_read.no) else some link_read.no
theorem link_read.ba_nil {s : ByteArray} (h : s.toList = []) : s = ⟨#[]⟩ := by
 rw [ByteArray.toList_eq] at h
 have h2 := Array.toList_eq_nil_iff.1 h
 obtain ⟨d⟩ := s
 exact congrArg ByteArray.mk h2
theorem link_read.ba_nil' {s : ByteArray} (h : s.size = 0) : s.toList = [] := by
 rw [ByteArray.toList_eq]
 exact List.eq_nil_of_length_eq_zero (by simpa using h)
theorem link_read.number_still (a0 : Int) (w : World) : Calls Try.prog 28 #[.int .i64 a0, .int .i64 1] w fun e w' => e = .returned (.bool (decide (1 ≤ a0 ∧ a0 ≤ 1099511627776))) ∧ w' = w := by
 by_cases c3 : a0 ≥ 1
 ·have c3b0 : decide (1 ≤ a0) = true := decide_eq_true c3
  have hq : decide (1 ≤ a0 ∧ a0 ≤ 1099511627776) = decide (a0 ≤ 1099511627776) := decide_eq_decide.2 ⟨fun h => h.2, fun h => ⟨c3, h⟩⟩
  rw [hq]
  clear c3 hq
  go_enter Try.func28, Try.ntmps28
  go_wp2
  go_ret
  exact ⟨rfl, rfl⟩
 ·have c3b0 : decide (1 ≤ a0) = false := decide_eq_false c3
  have hq : decide (1 ≤ a0 ∧ a0 ≤ 1099511627776) = false := decide_eq_false (fun h => c3 h.1)
  rw [hq]
  clear c3 hq
  go_enter Try.func28, Try.ntmps28
  go_wp2
  go_ret
  exact ⟨rfl, rfl⟩
def link_read.cs (kind x0 x1 x2 x3 : Int) (s : ByteArray) : Array Value := #[.int .i64 kind, .int .i64 x0, .int .i64 x1, .int .i64 x2, .int .i64 x3, .string s]
def link_read.Inv (w wr : World) (gh gs : Nat) (kind x0 x1 x2 x3 : Int) : Prop :=
 wr.heap[gh]? = some (.cells #[.int .i64 kind, .int .i64 x0, .int .i64 x1, .int .i64 x2, .int .i64 x3, .string (⟨#[]⟩ : ByteArray)] 150 (0, 0)) ∧
 wr.heap[gs]? = some (.cells #[.pointer (some ⟨gh, 1, none⟩), .pointer (some ⟨gh, 2, none⟩), .pointer (some ⟨gh, 3, none⟩), .pointer (some ⟨gh, 4, none⟩)] 190 (0, 0)) ∧
 wr.heap[w.heap.size]? = some (.cells #[.int .i64 0, .int .i64 0, .int .i64 0, .int .i64 0, .int .i64 0, .string (⟨#[]⟩ : ByteArray)] 150 (0, 0)) ∧ Below w.heap.size w wr ∧ w.heap.size < gh ∧ gh < gs
def link_read.at_ (k : Nat) (kind : Int) : Nat → Int → Int → Int → Int → ByteArray → Option (Int × Int × Int × Int × Int × ByteArray × Bool)
 | 0, _, _, _, _, s => link_read.s0 k kind s
 | 1, x0, _, _, _, s => link_read.s1 k kind x0 s
 | 2, x0, x1, _, _, s => link_read.s2 k kind x0 x1 s
 | 3, x0, x1, x2, _, s => link_read.s3 k kind x0 x1 x2 s
 | _, x0, x1, x2, x3, s => some (kind, x0, x1, x2, x3, s, link_read.ok kind x0 x2 s)
theorem link_read.Inv_set {w wr : World} {gh gs : Nat} {kind x0 x1 x2 x3 y0 y1 y2 y3 v : Int} (h : link_read.Inv w wr gh gs kind x0 x1 x2 x3) (i : Nat) (n : Nat)
  (e : (#[.int .i64 kind, .int .i64 x0, .int .i64 x1, .int .i64 x2, .int .i64 x3, .string (⟨#[]⟩ : ByteArray)] : Array Value).setIfInBounds i (.int .i64 v) = #[.int .i64 kind, .int .i64 y0, .int .i64 y1, .int .i64 y2, .int .i64 y3, .string (⟨#[]⟩ : ByteArray)]) :
  link_read.Inv w ((wr.drewN n).setCell ⟨gh, i, none⟩ (.int .i64 v)) gh gs kind y0 y1 y2 y3 := by
 obtain ⟨h1, h2, h3, h4, h5, h6⟩ := h
 exact ⟨blk_put (blk_drewN h1 n) i _ e, blk_far (blk_drewN h2 n) (by show gs ≠ gh; omega) _, blk_far (blk_drewN h3 n) (by show w.heap.size ≠ gh; omega) _, below_set (pw_below_drewN h4 n) z2_, h5, h6⟩
set_option maxHeartbeats 4000000 in
set_option maxRecDepth 100000 in
theorem link_read.walk (k : Nat) (a0 : ByteArray) (R : Int × Int × Int × Int × Int × ByteArray × Bool) (w : World) (h : link_read.f k a0 = some R) :
  Calls Try.prog 68 #[.string a0] w fun e w' => e = .returned (.tuple #[.agg (link_read.cs R.1 R.2.1 R.2.2.1 R.2.2.2.1 R.2.2.2.2.1 R.2.2.2.2.2.1), .bool R.2.2.2.2.2.2]) ∧ Below w.heap.size w w' := by
 have HB := a0_ (Below.refl w.heap.size w)
 unfold link_read.f at h
 replace h := Option.bind_eq_some_iff.1 h
 obtain ⟨⟨kind, body, e⟩, ho, h⟩ := h
 simp only at h
 have HO := a0_ ho
 clear ho
 by_cases he : e = 0
 ·rw [if_pos he] at h
  subst he
  by_cases hk : kind = 1 ∨ kind = 2
  ·rw [if_pos hk] at h
   have HA : Aside0 (link_read.at_ k kind 0 0 0 0 0 body = some R) := ⟨h⟩
   clear h
   rcases hk with rfl | rfl
   ·skip
    go_enter Try.func68, Try.ntmps68
    go_wp2_with fail
    (with_reducible refine (frame_Open.calls k a0 _ body _ _ HO.out).mono ?_)
    rintro e w1 ⟨rfl, hb⟩
    have HB1 := a0_ (below_step (below_alloc HB.out _) hb)
    have BR := a0_ (blk_below (blk_new w _) hb)
    have HZ := a0_ (show w.heap.size < w1.heap.size from z106_)
    clear hb
    go_wp2
    go_loopw [5, 35] (fun b i wr => ∃ (j : Nat) (x0 x1 x2 x3 : Int) (s : ByteArray), j ≤ 4 ∧ i = .int .i64 j ∧ b = .string s ∧ Aside0 (link_read.Inv w wr w1.heap.size (w1.heap.size + 1) _ x0 x1 x2 x3) ∧ Aside0 (link_read.at_ k _ j x0 x1 x2 x3 s = some R)) (fun _ i _ => 4 - (intOf i).toNat)
    case atStart => exact ⟨0, 0, 0, 0, 0, body, z2_, rfl, rfl, ⟨blk_alloc (blk_new w1 _) _, by simpa using blk_new (w1.alloc _) _, blk_alloc (blk_alloc BR.out _) _, below_alloc (below_alloc HB1.out _) _, HZ.out, z2_⟩, HA⟩
    case round =>
     obtain ⟨j, x0, x1, x2, x3, s, hj, rfl, rfl, HI, HA2⟩ := hrel
     clear HA
     have HG := a0_ (show w.heap.size < w1.heap.size ∧ w1.heap.size < w1.heap.size + 1 by have := HZ.out; omega)
     generalize w1.heap.size + 1 = gs at *
     generalize w1.heap.size = gh at *
     obtain ⟨wo, rfl⟩ : ∃ wo : World, wo = wr := ⟨_, rfl⟩
     rcases (show j = 0 ∨ j = 1 ∨ j = 2 ∨ j = 3 ∨ j = 4 from z2_) with rfl | rfl | rfl | rfl | rfl
     ·have hn := HA2.out
      simp only [link_read.at_, link_read.s0] at hn
      clear HA2
      replace hn := Option.bind_eq_some_iff.1 hn
      obtain ⟨⟨v, rest, e⟩, hv, hn⟩ := hn
      simp only at hn
      have HV := a0_ hv
      clear hv
      have hp := blk_cell HI.out.2.1 0
      have hc := blk_cell HI.out.1 1
      have hf : wo.frozen? ⟨gh, 1, none⟩ = false := blk_frozen HI.out.1 1
      have hne1 : w.heap.size ≠ gh := by have := HG.out; omega
      have hne2 : gh ≠ w.heap.size := by have := HG.out; omega
      by_cases he : e = 0
      ·subst he
       rw [if_pos rfl] at hn
       have HA3 : Aside0 (link_read.at_ k _ 1 v x1 x2 x3 rest = some R) := ⟨hn⟩
       clear hn
       go_wp2_with fail
       (with_reducible refine (octet_Number.calls k s 8 v rest 0 _ HV.out).mono ?_)
       rintro e w2 ⟨rfl, n, rfl⟩
       go_wp2
       go_roundw
       case rel => exact ⟨1, v, x1, x2, x3, rest, z2_, z30_, rfl, ⟨link_read.Inv_set HI.out 1 n rfl⟩, HA3⟩
       case measure => simp [intOf]
      ·rw [if_neg he] at hn
       obtain rfl := Option.some.inj hn
       have d1 : (e != 0) = true := bne_iff_ne.2 he
       have d2 : (e == 0) = false := beq_eq_false_iff_ne.2 he
       clear he hn
       have rc0 := blk_cell HI.out.2.2.1 0
       have rf0 : wo.frozen? ⟨w.heap.size, 0, none⟩ = false := blk_frozen HI.out.2.2.1 0
       have rc1 := blk_cell HI.out.2.2.1 1
       have rf1 : wo.frozen? ⟨w.heap.size, 1, none⟩ = false := blk_frozen HI.out.2.2.1 1
       have rc2 := blk_cell HI.out.2.2.1 2
       have rf2 : wo.frozen? ⟨w.heap.size, 2, none⟩ = false := blk_frozen HI.out.2.2.1 2
       have rc3 := blk_cell HI.out.2.2.1 3
       have rf3 : wo.frozen? ⟨w.heap.size, 3, none⟩ = false := blk_frozen HI.out.2.2.1 3
       have rc4 := blk_cell HI.out.2.2.1 4
       have rf4 : wo.frozen? ⟨w.heap.size, 4, none⟩ = false := blk_frozen HI.out.2.2.1 4
       have rc5 := blk_cell HI.out.2.2.1 5
       have rf5 : wo.frozen? ⟨w.heap.size, 5, none⟩ = false := blk_frozen HI.out.2.2.1 5
       go_wp2_with fail
       (with_reducible refine (octet_Number.calls k s 8 v rest e _ HV.out).mono ?_)
       rintro e w2 ⟨rfl, n, rfl⟩
       have HJ := a0_ (link_read.Inv_set (y0 := v) (y1 := x1) (y2 := x2) (y3 := x3) (v := v) HI.out 1 n rfl)
       have BR := a0_ HJ.out.2.2.1
       have HB1 := a0_ HJ.out.2.2.2.1
       go_wp2
       exact qpx130_
     ·have hn := HA2.out
      simp only [link_read.at_, link_read.s1] at hn
      clear HA2
      replace hn := Option.bind_eq_some_iff.1 hn
      obtain ⟨⟨v, rest, e⟩, hv, hn⟩ := hn
      simp only at hn
      have HV := a0_ hv
      clear hv
      have hp := blk_cell HI.out.2.1 1
      have hc := blk_cell HI.out.1 2
      have hf : wo.frozen? ⟨gh, 2, none⟩ = false := blk_frozen HI.out.1 2
      have hne1 : w.heap.size ≠ gh := by have := HG.out; omega
      have hne2 : gh ≠ w.heap.size := by have := HG.out; omega
      by_cases he : e = 0
      ·subst he
       rw [if_pos rfl] at hn
       have HA3 : Aside0 (link_read.at_ k _ 2 x0 v x2 x3 rest = some R) := ⟨hn⟩
       clear hn
       go_wp2_with fail
       (with_reducible refine (octet_Number.calls k s 8 v rest 0 _ HV.out).mono ?_)
       rintro e w2 ⟨rfl, n, rfl⟩
       go_wp2
       go_roundw
       case rel => exact ⟨2, x0, v, x2, x3, rest, z2_, z30_, rfl, ⟨link_read.Inv_set HI.out 2 n rfl⟩, HA3⟩
       case measure => simp [intOf]
      ·rw [if_neg he] at hn
       obtain rfl := Option.some.inj hn
       have d1 : (e != 0) = true := bne_iff_ne.2 he
       have d2 : (e == 0) = false := beq_eq_false_iff_ne.2 he
       clear he hn
       have rc0 := blk_cell HI.out.2.2.1 0
       have rf0 : wo.frozen? ⟨w.heap.size, 0, none⟩ = false := blk_frozen HI.out.2.2.1 0
       have rc1 := blk_cell HI.out.2.2.1 1
       have rf1 : wo.frozen? ⟨w.heap.size, 1, none⟩ = false := blk_frozen HI.out.2.2.1 1
       have rc2 := blk_cell HI.out.2.2.1 2
       have rf2 : wo.frozen? ⟨w.heap.size, 2, none⟩ = false := blk_frozen HI.out.2.2.1 2
       have rc3 := blk_cell HI.out.2.2.1 3
       have rf3 : wo.frozen? ⟨w.heap.size, 3, none⟩ = false := blk_frozen HI.out.2.2.1 3
       have rc4 := blk_cell HI.out.2.2.1 4
       have rf4 : wo.frozen? ⟨w.heap.size, 4, none⟩ = false := blk_frozen HI.out.2.2.1 4
       have rc5 := blk_cell HI.out.2.2.1 5
       have rf5 : wo.frozen? ⟨w.heap.size, 5, none⟩ = false := blk_frozen HI.out.2.2.1 5
       go_wp2_with fail
       (with_reducible refine (octet_Number.calls k s 8 v rest e _ HV.out).mono ?_)
       rintro e w2 ⟨rfl, n, rfl⟩
       have HJ := a0_ (link_read.Inv_set (y0 := x0) (y1 := v) (y2 := x2) (y3 := x3) (v := v) HI.out 2 n rfl)
       have BR := a0_ HJ.out.2.2.1
       have HB1 := a0_ HJ.out.2.2.2.1
       go_wp2
       exact qpx130_
     ·have hn := HA2.out
      simp only [link_read.at_, link_read.s2] at hn
      clear HA2
      replace hn := Option.bind_eq_some_iff.1 hn
      obtain ⟨⟨v, rest, e⟩, hv, hn⟩ := hn
      simp only at hn
      have HV := a0_ hv
      clear hv
      have hp := blk_cell HI.out.2.1 2
      have hc := blk_cell HI.out.1 3
      have hf : wo.frozen? ⟨gh, 3, none⟩ = false := blk_frozen HI.out.1 3
      have hne1 : w.heap.size ≠ gh := by have := HG.out; omega
      have hne2 : gh ≠ w.heap.size := by have := HG.out; omega
      by_cases he : e = 0
      ·subst he
       rw [if_pos rfl] at hn
       have HA3 : Aside0 (link_read.at_ k _ 3 x0 x1 v x3 rest = some R) := ⟨hn⟩
       clear hn
       go_wp2_with fail
       (with_reducible refine (octet_Number.calls k s 8 v rest 0 _ HV.out).mono ?_)
       rintro e w2 ⟨rfl, n, rfl⟩
       go_wp2
       go_roundw
       case rel => exact ⟨3, x0, x1, v, x3, rest, z2_, z30_, rfl, ⟨link_read.Inv_set HI.out 3 n rfl⟩, HA3⟩
       case measure => simp [intOf]
      ·rw [if_neg he] at hn
       obtain rfl := Option.some.inj hn
       have d1 : (e != 0) = true := bne_iff_ne.2 he
       have d2 : (e == 0) = false := beq_eq_false_iff_ne.2 he
       clear he hn
       have rc0 := blk_cell HI.out.2.2.1 0
       have rf0 : wo.frozen? ⟨w.heap.size, 0, none⟩ = false := blk_frozen HI.out.2.2.1 0
       have rc1 := blk_cell HI.out.2.2.1 1
       have rf1 : wo.frozen? ⟨w.heap.size, 1, none⟩ = false := blk_frozen HI.out.2.2.1 1
       have rc2 := blk_cell HI.out.2.2.1 2
       have rf2 : wo.frozen? ⟨w.heap.size, 2, none⟩ = false := blk_frozen HI.out.2.2.1 2
       have rc3 := blk_cell HI.out.2.2.1 3
       have rf3 : wo.frozen? ⟨w.heap.size, 3, none⟩ = false := blk_frozen HI.out.2.2.1 3
       have rc4 := blk_cell HI.out.2.2.1 4
       have rf4 : wo.frozen? ⟨w.heap.size, 4, none⟩ = false := blk_frozen HI.out.2.2.1 4
       have rc5 := blk_cell HI.out.2.2.1 5
       have rf5 : wo.frozen? ⟨w.heap.size, 5, none⟩ = false := blk_frozen HI.out.2.2.1 5
       go_wp2_with fail
       (with_reducible refine (octet_Number.calls k s 8 v rest e _ HV.out).mono ?_)
       rintro e w2 ⟨rfl, n, rfl⟩
       have HJ := a0_ (link_read.Inv_set (y0 := x0) (y1 := x1) (y2 := v) (y3 := x3) (v := v) HI.out 3 n rfl)
       have BR := a0_ HJ.out.2.2.1
       have HB1 := a0_ HJ.out.2.2.2.1
       go_wp2
       exact qpx130_
     ·have hn := HA2.out
      simp only [link_read.at_, link_read.s3] at hn
      clear HA2
      replace hn := Option.bind_eq_some_iff.1 hn
      obtain ⟨⟨v, rest, e⟩, hv, hn⟩ := hn
      simp only at hn
      have HV := a0_ hv
      clear hv
      have hp := blk_cell HI.out.2.1 3
      have hc := blk_cell HI.out.1 4
      have hf : wo.frozen? ⟨gh, 4, none⟩ = false := blk_frozen HI.out.1 4
      have hne1 : w.heap.size ≠ gh := by have := HG.out; omega
      have hne2 : gh ≠ w.heap.size := by have := HG.out; omega
      by_cases he : e = 0
      ·subst he
       rw [if_pos rfl] at hn
       have HA3 : Aside0 (link_read.at_ k _ 4 x0 x1 x2 v rest = some R) := ⟨hn⟩
       clear hn
       go_wp2_with fail
       (with_reducible refine (octet_Number.calls k s 8 v rest 0 _ HV.out).mono ?_)
       rintro e w2 ⟨rfl, n, rfl⟩
       go_wp2
       go_roundw
       case rel => exact ⟨4, x0, x1, x2, v, rest, z2_, z30_, rfl, ⟨link_read.Inv_set HI.out 4 n rfl⟩, HA3⟩
       case measure => simp [intOf]
      ·rw [if_neg he] at hn
       obtain rfl := Option.some.inj hn
       have d1 : (e != 0) = true := bne_iff_ne.2 he
       have d2 : (e == 0) = false := beq_eq_false_iff_ne.2 he
       clear he hn
       have rc0 := blk_cell HI.out.2.2.1 0
       have rf0 : wo.frozen? ⟨w.heap.size, 0, none⟩ = false := blk_frozen HI.out.2.2.1 0
       have rc1 := blk_cell HI.out.2.2.1 1
       have rf1 : wo.frozen? ⟨w.heap.size, 1, none⟩ = false := blk_frozen HI.out.2.2.1 1
       have rc2 := blk_cell HI.out.2.2.1 2
       have rf2 : wo.frozen? ⟨w.heap.size, 2, none⟩ = false := blk_frozen HI.out.2.2.1 2
       have rc3 := blk_cell HI.out.2.2.1 3
       have rf3 : wo.frozen? ⟨w.heap.size, 3, none⟩ = false := blk_frozen HI.out.2.2.1 3
       have rc4 := blk_cell HI.out.2.2.1 4
       have rf4 : wo.frozen? ⟨w.heap.size, 4, none⟩ = false := blk_frozen HI.out.2.2.1 4
       have rc5 := blk_cell HI.out.2.2.1 5
       have rf5 : wo.frozen? ⟨w.heap.size, 5, none⟩ = false := blk_frozen HI.out.2.2.1 5
       go_wp2_with fail
       (with_reducible refine (octet_Number.calls k s 8 v rest e _ HV.out).mono ?_)
       rintro e w2 ⟨rfl, n, rfl⟩
       have HJ := a0_ (link_read.Inv_set (y0 := x0) (y1 := x1) (y2 := x2) (y3 := v) (v := v) HI.out 4 n rfl)
       have BR := a0_ HJ.out.2.2.1
       have HB1 := a0_ HJ.out.2.2.2.1
       go_wp2
       exact qpx130_
     ·obtain rfl := Option.some.inj (HA2.out : some (_, x0, x1, x2, x3, s, link_read.ok _ x0 x2 s) = some R)
      clear HA2
      have rc0 := blk_cell HI.out.2.2.1 0
      have rf0 : wo.frozen? ⟨w.heap.size, 0, none⟩ = false := blk_frozen HI.out.2.2.1 0
      have rc1 := blk_cell HI.out.2.2.1 1
      have rf1 : wo.frozen? ⟨w.heap.size, 1, none⟩ = false := blk_frozen HI.out.2.2.1 1
      have rc2 := blk_cell HI.out.2.2.1 2
      have rf2 : wo.frozen? ⟨w.heap.size, 2, none⟩ = false := blk_frozen HI.out.2.2.1 2
      have rc3 := blk_cell HI.out.2.2.1 3
      have rf3 : wo.frozen? ⟨w.heap.size, 3, none⟩ = false := blk_frozen HI.out.2.2.1 3
      have rc4 := blk_cell HI.out.2.2.1 4
      have rf4 : wo.frozen? ⟨w.heap.size, 4, none⟩ = false := blk_frozen HI.out.2.2.1 4
      have rc5 := blk_cell HI.out.2.2.1 5
      have rf5 : wo.frozen? ⟨w.heap.size, 5, none⟩ = false := blk_frozen HI.out.2.2.1 5
      have hqc := blk_cell HI.out.1 5
      have hqf : wo.frozen? ⟨gh, 5, none⟩ = false := blk_frozen HI.out.1 5
      have hne1 : w.heap.size ≠ gh := by have := HG.out; omega
      have hne2 : gh ≠ w.heap.size := by have := HG.out; omega
      go_wp2
      have HX : Aside0 ((wo.setCell ⟨gh, 5, none⟩ (.string s)).heap[gh]? = some (.cells (link_read.cs 1 x0 x1 x2 x3 s) 150 (0, 0))) := ⟨blk_put HI.out.1 5 _ rfl⟩
      have HR : Aside0 ((wo.setCell ⟨gh, 5, none⟩ (.string s)).heap[w.heap.size]? = some (.cells #[.int .i64 0, .int .i64 0, .int .i64 0, .int .i64 0, .int .i64 0, .string (⟨#[]⟩ : ByteArray)] 150 (0, 0))) := ⟨blk_far HI.out.2.2.1 hne1 _⟩
      have HW : Aside0 (Below w.heap.size w (wo.setCell ⟨gh, 5, none⟩ (.string s))) := ⟨below_set HI.out.2.2.2.1 (by have := HG.out; omega)⟩
      generalize wo.setCell ⟨gh, 5, none⟩ (.string s) = W at HX HR HW ⊢
      clear rc0 rf0 rc1 rf1 rc2 rf2 rc3 rf3 rc4 rf4 rc5 rf5 HI hqc hqf
      replace HX := a0_ (blk_drew HX.out)
      replace HR := a0_ (blk_drew HR.out)
      replace HW := a0_ (below_drew1 HW.out)
      by_cases c1 : s.size ≤ 512
      ·have d1 : decide ((s.size : Int) ≤ 512) = true := decide_eq_true z2_
       have d2 : decide (s.size ≤ 512) = true := decide_eq_true c1
       refine st_ 24 (S := fun w' => w'.cell? ⟨gh, 0, none⟩ = some (.int .i64 1) ∧ w'.cell? ⟨gh, 1, none⟩ = some (.int .i64 x0) ∧ w'.cell? ⟨gh, 2, none⟩ = some (.int .i64 x1) ∧ w'.cell? ⟨gh, 3, none⟩ = some (.int .i64 x2) ∧ w'.cell? ⟨gh, 4, none⟩ = some (.int .i64 x3) ∧ w'.cell? ⟨gh, 5, none⟩ = some (.string s)) (ds := []) ⟨(blk_cell HX.out 0).trans rfl, (blk_cell HX.out 1).trans rfl, (blk_cell HX.out 2).trans rfl, (blk_cell HX.out 3).trans rfl, (blk_cell HX.out 4).trans rfl, (blk_cell HX.out 5).trans rfl⟩ (fun hHeld => ?_)
       generalize W.drew = V at HX HR HW hHeld ⊢
       refine pu_ 1 (some 54) rfl rfl ?_
       refine pu_ 2 (some 55) rfl rfl ?_
       refine pu_ 3 (some 56) rfl rfl ?_
       refine pu_ 4 (some 57) rfl rfl ?_
       refine pu_ 5 (some 58) rfl rfl ?_
       refine pu_ 6 (some 59) rfl rfl ?_
       refine pu_ 7 (some 60) rfl rfl ?_
       refine pv_ 8 (some 61) rfl rfl ?_
       refine pv_ 9 (some 62) rfl rfl ?_
       refine pv_ 10 (some 63) rfl rfl ?_
       refine pv_ 11 (some 64) rfl rfl ?_
       refine pv_ 12 (some 65) rfl rfl ?_
       refine pv_ 13 (some 66) rfl rfl ?_
       refine pv_ 14 (some 67) rfl rfl ?_
       refine pu_ 15 (some 68) rfl rfl ?_
       refine pu_ 16 (some 69) rfl rfl ?_
       refine pu_ 17 (some 70) rfl rfl ?_
       refine pu_ 18 (some 71) rfl rfl ?_
       refine ta_ 0 (some 53) rfl rfl hHeld ?_
       refine ta_ 19 (some 72) rfl rfl hHeld ?_
       refine on_ 20 (some 73) rfl rfl (fun K hK => ?_)
       refine goes_ Try.func28 z11_ rfl #[.int .i64 x0, .int .i64 1] (by rfl) rfl rfl z107_ ?_
       with_reducible refine (link_read.number_still x0 _).mono ?_
       rintro e w3 ⟨rfl, hw3⟩; obtain rfl := hw3.symm
       refine ⟨_, rfl, ?_⟩
       refine hK.out _ _ z108_ (fun hHeld => ?_)
       clear hK K
       refine norm_ (a' := ?_) ?_ ?_
       rotate_left
       ·show Act.put _ (some 73) _ = _
        exact put_
       refine pu_ 21 (some 74) rfl rfl ?_
       refine on_ 22 (none) rfl rfl (fun K hK => ?_)
       have yc0 := blk_cell HR.out 0
       have yf0 : V.frozen? ⟨w.heap.size, 0, none⟩ = false := blk_frozen HR.out 0
       have yc1 := blk_cell HR.out 1
       have yf1 : V.frozen? ⟨w.heap.size, 1, none⟩ = false := blk_frozen HR.out 1
       have yc2 := blk_cell HR.out 2
       have yf2 : V.frozen? ⟨w.heap.size, 2, none⟩ = false := blk_frozen HR.out 2
       have yc3 := blk_cell HR.out 3
       have yf3 : V.frozen? ⟨w.heap.size, 3, none⟩ = false := blk_frozen HR.out 3
       have yc4 := blk_cell HR.out 4
       have yf4 : V.frozen? ⟨w.heap.size, 4, none⟩ = false := blk_frozen HR.out 4
       have yc5 := blk_cell HR.out 5
       have yf5 : V.frozen? ⟨w.heap.size, 5, none⟩ = false := blk_frozen HR.out 5
       refine skip_ (w1 := ?_) (by rfl) rfl ?_ ?_
       rotate_left
       ·go_simp
        rfl
       refine hK.out _ _ z109_ (fun hHeld => ?_)
       clear hK K
       refine pu_ 23 (some 3) rfl rfl ?_
       refine done_ z11_ ?_
       go_wp2
       exact bodyPost_ret (results_ct rfl _ _ w.heap.size 150 (link_read.cs 1 x0 x1 x2 x3 s) (0, 0) _ rfl (blk_put (blk_put (blk_put (blk_put (blk_put (blk_put HR.out 0 _ rfl) 1 _ rfl) 2 _ rfl) 3 _ rfl) 4 _ rfl) 5 _ rfl) Try.underlying150 rfl z11_) rfl ⟨z110_, below_set (below_set (below_set (below_set (below_set (below_set HW.out (Nat.le_refl _)) (Nat.le_refl _)) (Nat.le_refl _)) (Nat.le_refl _)) (Nat.le_refl _)) (Nat.le_refl _)⟩
      ·have d1 : decide ((s.size : Int) ≤ 512) = false := decide_eq_false z2_
       have d2 : decide (s.size ≤ 512) = false := decide_eq_false c1
       refine st_ 24 (S := fun w' => w'.cell? ⟨gh, 0, none⟩ = some (.int .i64 1) ∧ w'.cell? ⟨gh, 1, none⟩ = some (.int .i64 x0) ∧ w'.cell? ⟨gh, 2, none⟩ = some (.int .i64 x1) ∧ w'.cell? ⟨gh, 3, none⟩ = some (.int .i64 x2) ∧ w'.cell? ⟨gh, 4, none⟩ = some (.int .i64 x3) ∧ w'.cell? ⟨gh, 5, none⟩ = some (.string s)) (ds := []) ⟨(blk_cell HX.out 0).trans rfl, (blk_cell HX.out 1).trans rfl, (blk_cell HX.out 2).trans rfl, (blk_cell HX.out 3).trans rfl, (blk_cell HX.out 4).trans rfl, (blk_cell HX.out 5).trans rfl⟩ (fun hHeld => ?_)
       generalize W.drew = V at HX HR HW hHeld ⊢
       refine pu_ 1 (some 54) rfl rfl ?_
       refine pu_ 2 (some 55) rfl rfl ?_
       refine pu_ 3 (some 56) rfl rfl ?_
       refine pu_ 4 (some 57) rfl rfl ?_
       refine pv_ 5 (some 58) rfl rfl ?_
       refine pv_ 6 (some 59) rfl rfl ?_
       refine pv_ 7 (some 60) rfl rfl ?_
       refine pv_ 8 (some 61) rfl rfl ?_
       refine pv_ 9 (some 62) rfl rfl ?_
       refine pv_ 10 (some 63) rfl rfl ?_
       refine pv_ 11 (some 64) rfl rfl ?_
       refine pv_ 12 (some 65) rfl rfl ?_
       refine pv_ 13 (some 66) rfl rfl ?_
       refine pv_ 14 (some 67) rfl rfl ?_
       refine pv_ 15 (some 68) rfl rfl ?_
       refine pu_ 16 (some 69) rfl rfl ?_
       refine pu_ 17 (some 70) rfl rfl ?_
       refine pv_ 18 (some 71) rfl rfl ?_
       refine pv_ 19 (some 72) rfl rfl ?_
       refine pv_ 20 (some 73) rfl rfl ?_
       refine pu_ 21 (some 74) rfl rfl ?_
       refine ta_ 0 (some 53) rfl rfl hHeld ?_
       refine on_ 22 (none) rfl rfl (fun K hK => ?_)
       have yc0 := blk_cell HR.out 0
       have yf0 : V.frozen? ⟨w.heap.size, 0, none⟩ = false := blk_frozen HR.out 0
       have yc1 := blk_cell HR.out 1
       have yf1 : V.frozen? ⟨w.heap.size, 1, none⟩ = false := blk_frozen HR.out 1
       have yc2 := blk_cell HR.out 2
       have yf2 : V.frozen? ⟨w.heap.size, 2, none⟩ = false := blk_frozen HR.out 2
       have yc3 := blk_cell HR.out 3
       have yf3 : V.frozen? ⟨w.heap.size, 3, none⟩ = false := blk_frozen HR.out 3
       have yc4 := blk_cell HR.out 4
       have yf4 : V.frozen? ⟨w.heap.size, 4, none⟩ = false := blk_frozen HR.out 4
       have yc5 := blk_cell HR.out 5
       have yf5 : V.frozen? ⟨w.heap.size, 5, none⟩ = false := blk_frozen HR.out 5
       refine skip_ (w1 := ?_) (by rfl) rfl ?_ ?_
       rotate_left
       ·go_simp
        rfl
       refine hK.out _ _ z109_ (fun hHeld => ?_)
       clear hK K
       refine pu_ 23 (some 3) rfl rfl ?_
       refine done_ z11_ ?_
       go_wp2
       exact bodyPost_ret (results_ct rfl _ _ w.heap.size 150 (link_read.cs 1 x0 x1 x2 x3 s) (0, 0) _ rfl (blk_put (blk_put (blk_put (blk_put (blk_put (blk_put HR.out 0 _ rfl) 1 _ rfl) 2 _ rfl) 3 _ rfl) 4 _ rfl) 5 _ rfl) Try.underlying150 rfl z11_) rfl ⟨z110_, below_set (below_set (below_set (below_set (below_set (below_set HW.out (Nat.le_refl _)) (Nat.le_refl _)) (Nat.le_refl _)) (Nat.le_refl _)) (Nat.le_refl _)) (Nat.le_refl _)⟩
   ·skip
    go_enter Try.func68, Try.ntmps68
    go_wp2_with fail
    (with_reducible refine (frame_Open.calls k a0 _ body _ _ HO.out).mono ?_)
    rintro e w1 ⟨rfl, hb⟩
    have HB1 := a0_ (below_step (below_alloc HB.out _) hb)
    have BR := a0_ (blk_below (blk_new w _) hb)
    have HZ := a0_ (show w.heap.size < w1.heap.size from z106_)
    clear hb
    go_wp2
    go_loopw [5, 35] (fun b i wr => ∃ (j : Nat) (x0 x1 x2 x3 : Int) (s : ByteArray), j ≤ 4 ∧ i = .int .i64 j ∧ b = .string s ∧ Aside0 (link_read.Inv w wr w1.heap.size (w1.heap.size + 1) _ x0 x1 x2 x3) ∧ Aside0 (link_read.at_ k _ j x0 x1 x2 x3 s = some R)) (fun _ i _ => 4 - (intOf i).toNat)
    case atStart => exact ⟨0, 0, 0, 0, 0, body, z2_, rfl, rfl, ⟨blk_alloc (blk_new w1 _) _, by simpa using blk_new (w1.alloc _) _, blk_alloc (blk_alloc BR.out _) _, below_alloc (below_alloc HB1.out _) _, HZ.out, z2_⟩, HA⟩
    case round =>
     obtain ⟨j, x0, x1, x2, x3, s, hj, rfl, rfl, HI, HA2⟩ := hrel
     clear HA
     have HG := a0_ (show w.heap.size < w1.heap.size ∧ w1.heap.size < w1.heap.size + 1 by have := HZ.out; omega)
     generalize w1.heap.size + 1 = gs at *
     generalize w1.heap.size = gh at *
     obtain ⟨wo, rfl⟩ : ∃ wo : World, wo = wr := ⟨_, rfl⟩
     rcases (show j = 0 ∨ j = 1 ∨ j = 2 ∨ j = 3 ∨ j = 4 from z2_) with rfl | rfl | rfl | rfl | rfl
     ·have hn := HA2.out
      simp only [link_read.at_, link_read.s0] at hn
      clear HA2
      replace hn := Option.bind_eq_some_iff.1 hn
      obtain ⟨⟨v, rest, e⟩, hv, hn⟩ := hn
      simp only at hn
      have HV := a0_ hv
      clear hv
      have hp := blk_cell HI.out.2.1 0
      have hc := blk_cell HI.out.1 1
      have hf : wo.frozen? ⟨gh, 1, none⟩ = false := blk_frozen HI.out.1 1
      have hne1 : w.heap.size ≠ gh := by have := HG.out; omega
      have hne2 : gh ≠ w.heap.size := by have := HG.out; omega
      by_cases he : e = 0
      ·subst he
       rw [if_pos rfl] at hn
       have HA3 : Aside0 (link_read.at_ k _ 1 v x1 x2 x3 rest = some R) := ⟨hn⟩
       clear hn
       go_wp2_with fail
       (with_reducible refine (octet_Number.calls k s 8 v rest 0 _ HV.out).mono ?_)
       rintro e w2 ⟨rfl, n, rfl⟩
       go_wp2
       go_roundw
       case rel => exact ⟨1, v, x1, x2, x3, rest, z2_, z30_, rfl, ⟨link_read.Inv_set HI.out 1 n rfl⟩, HA3⟩
       case measure => simp [intOf]
      ·rw [if_neg he] at hn
       obtain rfl := Option.some.inj hn
       have d1 : (e != 0) = true := bne_iff_ne.2 he
       have d2 : (e == 0) = false := beq_eq_false_iff_ne.2 he
       clear he hn
       have rc0 := blk_cell HI.out.2.2.1 0
       have rf0 : wo.frozen? ⟨w.heap.size, 0, none⟩ = false := blk_frozen HI.out.2.2.1 0
       have rc1 := blk_cell HI.out.2.2.1 1
       have rf1 : wo.frozen? ⟨w.heap.size, 1, none⟩ = false := blk_frozen HI.out.2.2.1 1
       have rc2 := blk_cell HI.out.2.2.1 2
       have rf2 : wo.frozen? ⟨w.heap.size, 2, none⟩ = false := blk_frozen HI.out.2.2.1 2
       have rc3 := blk_cell HI.out.2.2.1 3
       have rf3 : wo.frozen? ⟨w.heap.size, 3, none⟩ = false := blk_frozen HI.out.2.2.1 3
       have rc4 := blk_cell HI.out.2.2.1 4
       have rf4 : wo.frozen? ⟨w.heap.size, 4, none⟩ = false := blk_frozen HI.out.2.2.1 4
       have rc5 := blk_cell HI.out.2.2.1 5
       have rf5 : wo.frozen? ⟨w.heap.size, 5, none⟩ = false := blk_frozen HI.out.2.2.1 5
       go_wp2_with fail
       (with_reducible refine (octet_Number.calls k s 8 v rest e _ HV.out).mono ?_)
       rintro e w2 ⟨rfl, n, rfl⟩
       have HJ := a0_ (link_read.Inv_set (y0 := v) (y1 := x1) (y2 := x2) (y3 := x3) (v := v) HI.out 1 n rfl)
       have BR := a0_ HJ.out.2.2.1
       have HB1 := a0_ HJ.out.2.2.2.1
       go_wp2
       exact qpx130_
     ·have hn := HA2.out
      simp only [link_read.at_, link_read.s1] at hn
      clear HA2
      replace hn := Option.bind_eq_some_iff.1 hn
      obtain ⟨⟨v, rest, e⟩, hv, hn⟩ := hn
      simp only at hn
      have HV := a0_ hv
      clear hv
      have hp := blk_cell HI.out.2.1 1
      have hc := blk_cell HI.out.1 2
      have hf : wo.frozen? ⟨gh, 2, none⟩ = false := blk_frozen HI.out.1 2
      have hne1 : w.heap.size ≠ gh := by have := HG.out; omega
      have hne2 : gh ≠ w.heap.size := by have := HG.out; omega
      by_cases he : e = 0
      ·subst he
       rw [if_pos rfl] at hn
       have HA3 : Aside0 (link_read.at_ k _ 2 x0 v x2 x3 rest = some R) := ⟨hn⟩
       clear hn
       go_wp2_with fail
       (with_reducible refine (octet_Number.calls k s 8 v rest 0 _ HV.out).mono ?_)
       rintro e w2 ⟨rfl, n, rfl⟩
       go_wp2
       go_roundw
       case rel => exact ⟨2, x0, v, x2, x3, rest, z2_, z30_, rfl, ⟨link_read.Inv_set HI.out 2 n rfl⟩, HA3⟩
       case measure => simp [intOf]
      ·rw [if_neg he] at hn
       obtain rfl := Option.some.inj hn
       have d1 : (e != 0) = true := bne_iff_ne.2 he
       have d2 : (e == 0) = false := beq_eq_false_iff_ne.2 he
       clear he hn
       have rc0 := blk_cell HI.out.2.2.1 0
       have rf0 : wo.frozen? ⟨w.heap.size, 0, none⟩ = false := blk_frozen HI.out.2.2.1 0
       have rc1 := blk_cell HI.out.2.2.1 1
       have rf1 : wo.frozen? ⟨w.heap.size, 1, none⟩ = false := blk_frozen HI.out.2.2.1 1
       have rc2 := blk_cell HI.out.2.2.1 2
       have rf2 : wo.frozen? ⟨w.heap.size, 2, none⟩ = false := blk_frozen HI.out.2.2.1 2
       have rc3 := blk_cell HI.out.2.2.1 3
       have rf3 : wo.frozen? ⟨w.heap.size, 3, none⟩ = false := blk_frozen HI.out.2.2.1 3
       have rc4 := blk_cell HI.out.2.2.1 4
       have rf4 : wo.frozen? ⟨w.heap.size, 4, none⟩ = false := blk_frozen HI.out.2.2.1 4
       have rc5 := blk_cell HI.out.2.2.1 5
       have rf5 : wo.frozen? ⟨w.heap.size, 5, none⟩ = false := blk_frozen HI.out.2.2.1 5
       go_wp2_with fail
       (with_reducible refine (octet_Number.calls k s 8 v rest e _ HV.out).mono ?_)
       rintro e w2 ⟨rfl, n, rfl⟩
       have HJ := a0_ (link_read.Inv_set (y0 := x0) (y1 := v) (y2 := x2) (y3 := x3) (v := v) HI.out 2 n rfl)
       have BR := a0_ HJ.out.2.2.1
       have HB1 := a0_ HJ.out.2.2.2.1
       go_wp2
       exact qpx130_
     ·have hn := HA2.out
      simp only [link_read.at_, link_read.s2] at hn
      clear HA2
      replace hn := Option.bind_eq_some_iff.1 hn
      obtain ⟨⟨v, rest, e⟩, hv, hn⟩ := hn
      simp only at hn
      have HV := a0_ hv
      clear hv
      have hp := blk_cell HI.out.2.1 2
      have hc := blk_cell HI.out.1 3
      have hf : wo.frozen? ⟨gh, 3, none⟩ = false := blk_frozen HI.out.1 3
      have hne1 : w.heap.size ≠ gh := by have := HG.out; omega
      have hne2 : gh ≠ w.heap.size := by have := HG.out; omega
      by_cases he : e = 0
      ·subst he
       rw [if_pos rfl] at hn
       have HA3 : Aside0 (link_read.at_ k _ 3 x0 x1 v x3 rest = some R) := ⟨hn⟩
       clear hn
       go_wp2_with fail
       (with_reducible refine (octet_Number.calls k s 8 v rest 0 _ HV.out).mono ?_)
       rintro e w2 ⟨rfl, n, rfl⟩
       go_wp2
       go_roundw
       case rel => exact ⟨3, x0, x1, v, x3, rest, z2_, z30_, rfl, ⟨link_read.Inv_set HI.out 3 n rfl⟩, HA3⟩
       case measure => simp [intOf]
      ·rw [if_neg he] at hn
       obtain rfl := Option.some.inj hn
       have d1 : (e != 0) = true := bne_iff_ne.2 he
       have d2 : (e == 0) = false := beq_eq_false_iff_ne.2 he
       clear he hn
       have rc0 := blk_cell HI.out.2.2.1 0
       have rf0 : wo.frozen? ⟨w.heap.size, 0, none⟩ = false := blk_frozen HI.out.2.2.1 0
       have rc1 := blk_cell HI.out.2.2.1 1
       have rf1 : wo.frozen? ⟨w.heap.size, 1, none⟩ = false := blk_frozen HI.out.2.2.1 1
       have rc2 := blk_cell HI.out.2.2.1 2
       have rf2 : wo.frozen? ⟨w.heap.size, 2, none⟩ = false := blk_frozen HI.out.2.2.1 2
       have rc3 := blk_cell HI.out.2.2.1 3
       have rf3 : wo.frozen? ⟨w.heap.size, 3, none⟩ = false := blk_frozen HI.out.2.2.1 3
       have rc4 := blk_cell HI.out.2.2.1 4
       have rf4 : wo.frozen? ⟨w.heap.size, 4, none⟩ = false := blk_frozen HI.out.2.2.1 4
       have rc5 := blk_cell HI.out.2.2.1 5
       have rf5 : wo.frozen? ⟨w.heap.size, 5, none⟩ = false := blk_frozen HI.out.2.2.1 5
       go_wp2_with fail
       (with_reducible refine (octet_Number.calls k s 8 v rest e _ HV.out).mono ?_)
       rintro e w2 ⟨rfl, n, rfl⟩
       have HJ := a0_ (link_read.Inv_set (y0 := x0) (y1 := x1) (y2 := v) (y3 := x3) (v := v) HI.out 3 n rfl)
       have BR := a0_ HJ.out.2.2.1
       have HB1 := a0_ HJ.out.2.2.2.1
       go_wp2
       exact qpx130_
     ·have hn := HA2.out
      simp only [link_read.at_, link_read.s3] at hn
      clear HA2
      replace hn := Option.bind_eq_some_iff.1 hn
      obtain ⟨⟨v, rest, e⟩, hv, hn⟩ := hn
      simp only at hn
      have HV := a0_ hv
      clear hv
      have hp := blk_cell HI.out.2.1 3
      have hc := blk_cell HI.out.1 4
      have hf : wo.frozen? ⟨gh, 4, none⟩ = false := blk_frozen HI.out.1 4
      have hne1 : w.heap.size ≠ gh := by have := HG.out; omega
      have hne2 : gh ≠ w.heap.size := by have := HG.out; omega
      by_cases he : e = 0
      ·subst he
       rw [if_pos rfl] at hn
       have HA3 : Aside0 (link_read.at_ k _ 4 x0 x1 x2 v rest = some R) := ⟨hn⟩
       clear hn
       go_wp2_with fail
       (with_reducible refine (octet_Number.calls k s 8 v rest 0 _ HV.out).mono ?_)
       rintro e w2 ⟨rfl, n, rfl⟩
       go_wp2
       go_roundw
       case rel => exact ⟨4, x0, x1, x2, v, rest, z2_, z30_, rfl, ⟨link_read.Inv_set HI.out 4 n rfl⟩, HA3⟩
       case measure => simp [intOf]
      ·rw [if_neg he] at hn
       obtain rfl := Option.some.inj hn
       have d1 : (e != 0) = true := bne_iff_ne.2 he
       have d2 : (e == 0) = false := beq_eq_false_iff_ne.2 he
       clear he hn
       have rc0 := blk_cell HI.out.2.2.1 0
       have rf0 : wo.frozen? ⟨w.heap.size, 0, none⟩ = false := blk_frozen HI.out.2.2.1 0
       have rc1 := blk_cell HI.out.2.2.1 1
       have rf1 : wo.frozen? ⟨w.heap.size, 1, none⟩ = false := blk_frozen HI.out.2.2.1 1
       have rc2 := blk_cell HI.out.2.2.1 2
       have rf2 : wo.frozen? ⟨w.heap.size, 2, none⟩ = false := blk_frozen HI.out.2.2.1 2
       have rc3 := blk_cell HI.out.2.2.1 3
       have rf3 : wo.frozen? ⟨w.heap.size, 3, none⟩ = false := blk_frozen HI.out.2.2.1 3
       have rc4 := blk_cell HI.out.2.2.1 4
       have rf4 : wo.frozen? ⟨w.heap.size, 4, none⟩ = false := blk_frozen HI.out.2.2.1 4
       have rc5 := blk_cell HI.out.2.2.1 5
       have rf5 : wo.frozen? ⟨w.heap.size, 5, none⟩ = false := blk_frozen HI.out.2.2.1 5
       go_wp2_with fail
       (with_reducible refine (octet_Number.calls k s 8 v rest e _ HV.out).mono ?_)
       rintro e w2 ⟨rfl, n, rfl⟩
       have HJ := a0_ (link_read.Inv_set (y0 := x0) (y1 := x1) (y2 := x2) (y3 := v) (v := v) HI.out 4 n rfl)
       have BR := a0_ HJ.out.2.2.1
       have HB1 := a0_ HJ.out.2.2.2.1
       go_wp2
       exact qpx130_
     ·obtain rfl := Option.some.inj (HA2.out : some (_, x0, x1, x2, x3, s, link_read.ok _ x0 x2 s) = some R)
      clear HA2
      have rc0 := blk_cell HI.out.2.2.1 0
      have rf0 : wo.frozen? ⟨w.heap.size, 0, none⟩ = false := blk_frozen HI.out.2.2.1 0
      have rc1 := blk_cell HI.out.2.2.1 1
      have rf1 : wo.frozen? ⟨w.heap.size, 1, none⟩ = false := blk_frozen HI.out.2.2.1 1
      have rc2 := blk_cell HI.out.2.2.1 2
      have rf2 : wo.frozen? ⟨w.heap.size, 2, none⟩ = false := blk_frozen HI.out.2.2.1 2
      have rc3 := blk_cell HI.out.2.2.1 3
      have rf3 : wo.frozen? ⟨w.heap.size, 3, none⟩ = false := blk_frozen HI.out.2.2.1 3
      have rc4 := blk_cell HI.out.2.2.1 4
      have rf4 : wo.frozen? ⟨w.heap.size, 4, none⟩ = false := blk_frozen HI.out.2.2.1 4
      have rc5 := blk_cell HI.out.2.2.1 5
      have rf5 : wo.frozen? ⟨w.heap.size, 5, none⟩ = false := blk_frozen HI.out.2.2.1 5
      have hqc := blk_cell HI.out.1 5
      have hqf : wo.frozen? ⟨gh, 5, none⟩ = false := blk_frozen HI.out.1 5
      have hne1 : w.heap.size ≠ gh := by have := HG.out; omega
      have hne2 : gh ≠ w.heap.size := by have := HG.out; omega
      go_wp2
      have HX : Aside0 ((wo.setCell ⟨gh, 5, none⟩ (.string s)).heap[gh]? = some (.cells (link_read.cs 2 x0 x1 x2 x3 s) 150 (0, 0))) := ⟨blk_put HI.out.1 5 _ rfl⟩
      have HR : Aside0 ((wo.setCell ⟨gh, 5, none⟩ (.string s)).heap[w.heap.size]? = some (.cells #[.int .i64 0, .int .i64 0, .int .i64 0, .int .i64 0, .int .i64 0, .string (⟨#[]⟩ : ByteArray)] 150 (0, 0))) := ⟨blk_far HI.out.2.2.1 hne1 _⟩
      have HW : Aside0 (Below w.heap.size w (wo.setCell ⟨gh, 5, none⟩ (.string s))) := ⟨below_set HI.out.2.2.2.1 (by have := HG.out; omega)⟩
      generalize wo.setCell ⟨gh, 5, none⟩ (.string s) = W at HX HR HW ⊢
      clear rc0 rf0 rc1 rf1 rc2 rf2 rc3 rf3 rc4 rf4 rc5 rf5 HI hqc hqf
      replace HX := a0_ (blk_drew HX.out)
      replace HR := a0_ (blk_drew HR.out)
      replace HW := a0_ (below_drew1 HW.out)
      by_cases c1 : s.size ≤ 512
      ·have d1 : decide ((s.size : Int) ≤ 512) = true := decide_eq_true z2_
       have d2 : decide (s.size ≤ 512) = true := decide_eq_true c1
       by_cases c2 : s.toList = []
       ·have d3 : (s.toList == []) = true := beq_iff_eq.2 c2
        have d4 : s.toList.isEmpty = true := by rw [c2]; rfl
        have hs0 : s.size = 0 := by rw [show s = ⟨#[]⟩ from link_read.ba_nil c2]; rfl
        by_cases c3 : x2 = 0
        ·subst c3
         refine st_ 24 (S := fun w' => w'.cell? ⟨gh, 0, none⟩ = some (.int .i64 2) ∧ w'.cell? ⟨gh, 1, none⟩ = some (.int .i64 x0) ∧ w'.cell? ⟨gh, 2, none⟩ = some (.int .i64 x1) ∧ w'.cell? ⟨gh, 3, none⟩ = some (.int .i64 0) ∧ w'.cell? ⟨gh, 4, none⟩ = some (.int .i64 x3) ∧ w'.cell? ⟨gh, 5, none⟩ = some (.string s)) (ds := []) ⟨(blk_cell HX.out 0).trans rfl, (blk_cell HX.out 1).trans rfl, (blk_cell HX.out 2).trans rfl, (blk_cell HX.out 3).trans rfl, (blk_cell HX.out 4).trans rfl, (blk_cell HX.out 5).trans rfl⟩ (fun hHeld => ?_)
         generalize W.drew = V at HX HR HW hHeld ⊢
         refine pu_ 1 (some 54) rfl rfl ?_
         refine pu_ 2 (some 55) rfl rfl ?_
         refine pu_ 3 (some 56) rfl rfl ?_
         refine pu_ 4 (some 57) rfl rfl ?_
         refine pu_ 5 (some 58) rfl rfl ?_
         refine pu_ 6 (some 59) rfl rfl ?_
         refine pu_ 7 (some 60) rfl rfl ?_
         refine pu_ 8 (some 61) rfl rfl ?_
         refine pu_ 9 (some 62) rfl rfl ?_
         refine pu_ 10 (some 63) rfl rfl ?_
         refine pu_ 11 (some 64) rfl rfl ?_
         refine ta_ 0 (some 53) rfl rfl hHeld ?_
         refine ta_ 12 (some 65) rfl rfl hHeld ?_
         refine pu_ 13 (some 66) rfl rfl ?_
         refine pu_ 14 (some 67) rfl rfl ?_
         refine pu_ 15 (some 68) rfl rfl ?_
         refine pu_ 16 (some 69) rfl rfl ?_
         refine pu_ 17 (some 70) rfl rfl ?_
         refine pu_ 18 (some 71) rfl rfl ?_
         refine ta_ 19 (some 72) rfl rfl hHeld ?_
         refine on_ 20 (some 73) rfl rfl (fun K hK => ?_)
         refine goes_ Try.func28 z11_ rfl #[.int .i64 x0, .int .i64 1] (by rfl) rfl rfl z107_ ?_
         with_reducible refine (link_read.number_still x0 _).mono ?_
         rintro e w3 ⟨rfl, hw3⟩; obtain rfl := hw3.symm
         refine ⟨_, rfl, ?_⟩
         refine hK.out _ _ z108_ (fun hHeld => ?_)
         clear hK K
         refine norm_ (a' := ?_) ?_ ?_
         rotate_left
         ·show Act.put _ (some 73) _ = _
          exact put_
         refine pu_ 21 (some 74) rfl rfl ?_
         refine on_ 22 (none) rfl rfl (fun K hK => ?_)
         have yc0 := blk_cell HR.out 0
         have yf0 : V.frozen? ⟨w.heap.size, 0, none⟩ = false := blk_frozen HR.out 0
         have yc1 := blk_cell HR.out 1
         have yf1 : V.frozen? ⟨w.heap.size, 1, none⟩ = false := blk_frozen HR.out 1
         have yc2 := blk_cell HR.out 2
         have yf2 : V.frozen? ⟨w.heap.size, 2, none⟩ = false := blk_frozen HR.out 2
         have yc3 := blk_cell HR.out 3
         have yf3 : V.frozen? ⟨w.heap.size, 3, none⟩ = false := blk_frozen HR.out 3
         have yc4 := blk_cell HR.out 4
         have yf4 : V.frozen? ⟨w.heap.size, 4, none⟩ = false := blk_frozen HR.out 4
         have yc5 := blk_cell HR.out 5
         have yf5 : V.frozen? ⟨w.heap.size, 5, none⟩ = false := blk_frozen HR.out 5
         refine skip_ (w1 := ?_) (by rfl) rfl ?_ ?_
         rotate_left
         ·go_simp
          rfl
         refine hK.out _ _ z109_ (fun hHeld => ?_)
         clear hK K
         refine pu_ 23 (some 3) rfl rfl ?_
         refine done_ z11_ ?_
         go_wp2
         exact bodyPost_ret (results_ct rfl _ _ w.heap.size 150 (link_read.cs 2 x0 x1 0 x3 s) (0, 0) _ rfl (blk_put (blk_put (blk_put (blk_put (blk_put (blk_put HR.out 0 _ rfl) 1 _ rfl) 2 _ rfl) 3 _ rfl) 4 _ rfl) 5 _ rfl) Try.underlying150 rfl z11_) rfl ⟨by simp only [link_read.ok]; simp [c1, hs0], below_set (below_set (below_set (below_set (below_set (below_set HW.out (Nat.le_refl _)) (Nat.le_refl _)) (Nat.le_refl _)) (Nat.le_refl _)) (Nat.le_refl _)) (Nat.le_refl _)⟩
        ·have d5 : (x2 == 0) = false := beq_eq_false_iff_ne.2 c3
         refine st_ 24 (S := fun w' => w'.cell? ⟨gh, 0, none⟩ = some (.int .i64 2) ∧ w'.cell? ⟨gh, 1, none⟩ = some (.int .i64 x0) ∧ w'.cell? ⟨gh, 2, none⟩ = some (.int .i64 x1) ∧ w'.cell? ⟨gh, 3, none⟩ = some (.int .i64 x2) ∧ w'.cell? ⟨gh, 4, none⟩ = some (.int .i64 x3) ∧ w'.cell? ⟨gh, 5, none⟩ = some (.string s)) (ds := []) ⟨(blk_cell HX.out 0).trans rfl, (blk_cell HX.out 1).trans rfl, (blk_cell HX.out 2).trans rfl, (blk_cell HX.out 3).trans rfl, (blk_cell HX.out 4).trans rfl, (blk_cell HX.out 5).trans rfl⟩ (fun hHeld => ?_)
         generalize W.drew = V at HX HR HW hHeld ⊢
         refine pu_ 1 (some 54) rfl rfl ?_
         refine pu_ 2 (some 55) rfl rfl ?_
         refine pu_ 3 (some 56) rfl rfl ?_
         refine pu_ 4 (some 57) rfl rfl ?_
         refine pu_ 5 (some 58) rfl rfl ?_
         refine pu_ 6 (some 59) rfl rfl ?_
         refine pu_ 7 (some 60) rfl rfl ?_
         refine pu_ 8 (some 61) rfl rfl ?_
         refine pu_ 9 (some 62) rfl rfl ?_
         refine pu_ 10 (some 63) rfl rfl ?_
         refine pu_ 11 (some 64) rfl rfl ?_
         refine ta_ 0 (some 53) rfl rfl hHeld ?_
         refine ta_ 12 (some 65) rfl rfl hHeld ?_
         refine pu_ 13 (some 66) rfl rfl ?_
         refine pu_ 14 (some 67) rfl rfl ?_
         refine pu_ 15 (some 68) rfl rfl ?_
         refine pu_ 16 (some 69) rfl rfl ?_
         refine pu_ 17 (some 70) rfl rfl ?_
         refine pv_ 18 (some 71) rfl rfl ?_
         refine pv_ 19 (some 72) rfl rfl ?_
         refine pv_ 20 (some 73) rfl rfl ?_
         refine pu_ 21 (some 74) rfl rfl ?_
         refine on_ 22 (none) rfl rfl (fun K hK => ?_)
         have yc0 := blk_cell HR.out 0
         have yf0 : V.frozen? ⟨w.heap.size, 0, none⟩ = false := blk_frozen HR.out 0
         have yc1 := blk_cell HR.out 1
         have yf1 : V.frozen? ⟨w.heap.size, 1, none⟩ = false := blk_frozen HR.out 1
         have yc2 := blk_cell HR.out 2
         have yf2 : V.frozen? ⟨w.heap.size, 2, none⟩ = false := blk_frozen HR.out 2
         have yc3 := blk_cell HR.out 3
         have yf3 : V.frozen? ⟨w.heap.size, 3, none⟩ = false := blk_frozen HR.out 3
         have yc4 := blk_cell HR.out 4
         have yf4 : V.frozen? ⟨w.heap.size, 4, none⟩ = false := blk_frozen HR.out 4
         have yc5 := blk_cell HR.out 5
         have yf5 : V.frozen? ⟨w.heap.size, 5, none⟩ = false := blk_frozen HR.out 5
         refine skip_ (w1 := ?_) (by rfl) rfl ?_ ?_
         rotate_left
         ·go_simp
          rfl
         refine hK.out _ _ z109_ (fun hHeld => ?_)
         clear hK K
         refine pu_ 23 (some 3) rfl rfl ?_
         refine done_ z11_ ?_
         go_wp2
         exact bodyPost_ret (results_ct rfl _ _ w.heap.size 150 (link_read.cs 2 x0 x1 x2 x3 s) (0, 0) _ rfl (blk_put (blk_put (blk_put (blk_put (blk_put (blk_put HR.out 0 _ rfl) 1 _ rfl) 2 _ rfl) 3 _ rfl) 4 _ rfl) 5 _ rfl) Try.underlying150 rfl z11_) rfl ⟨by simp only [link_read.ok]; simp [c1, hs0, c3], below_set (below_set (below_set (below_set (below_set (below_set HW.out (Nat.le_refl _)) (Nat.le_refl _)) (Nat.le_refl _)) (Nat.le_refl _)) (Nat.le_refl _)) (Nat.le_refl _)⟩
       ·have d3 : (s.toList == []) = false := beq_eq_false_iff_ne.2 c2
        have d4 : s.toList.isEmpty = false := by rw [Bool.eq_false_iff, Ne, List.isEmpty_iff]; exact c2
        have hs0 : s.size ≠ 0 := fun h => c2 (link_read.ba_nil' h)
        refine st_ 24 (S := fun w' => w'.cell? ⟨gh, 0, none⟩ = some (.int .i64 2) ∧ w'.cell? ⟨gh, 1, none⟩ = some (.int .i64 x0) ∧ w'.cell? ⟨gh, 2, none⟩ = some (.int .i64 x1) ∧ w'.cell? ⟨gh, 3, none⟩ = some (.int .i64 x2) ∧ w'.cell? ⟨gh, 4, none⟩ = some (.int .i64 x3) ∧ w'.cell? ⟨gh, 5, none⟩ = some (.string s)) (ds := []) ⟨(blk_cell HX.out 0).trans rfl, (blk_cell HX.out 1).trans rfl, (blk_cell HX.out 2).trans rfl, (blk_cell HX.out 3).trans rfl, (blk_cell HX.out 4).trans rfl, (blk_cell HX.out 5).trans rfl⟩ (fun hHeld => ?_)
        generalize W.drew = V at HX HR HW hHeld ⊢
        refine pu_ 1 (some 54) rfl rfl ?_
        refine pu_ 2 (some 55) rfl rfl ?_
        refine pu_ 3 (some 56) rfl rfl ?_
        refine pu_ 4 (some 57) rfl rfl ?_
        refine pu_ 5 (some 58) rfl rfl ?_
        refine pu_ 6 (some 59) rfl rfl ?_
        refine pu_ 7 (some 60) rfl rfl ?_
        refine pu_ 8 (some 61) rfl rfl ?_
        refine pu_ 9 (some 62) rfl rfl ?_
        refine pu_ 10 (some 63) rfl rfl ?_
        refine pv_ 11 (some 64) rfl rfl ?_
        refine pv_ 12 (some 65) rfl rfl ?_
        refine pv_ 13 (some 66) rfl rfl ?_
        refine pu_ 14 (some 67) rfl rfl ?_
        refine pu_ 15 (some 68) rfl rfl ?_
        refine pu_ 16 (some 69) rfl rfl ?_
        refine pu_ 17 (some 70) rfl rfl ?_
        refine pv_ 18 (some 71) rfl rfl ?_
        refine pv_ 19 (some 72) rfl rfl ?_
        refine pv_ 20 (some 73) rfl rfl ?_
        refine pu_ 21 (some 74) rfl rfl ?_
        refine ta_ 0 (some 53) rfl rfl hHeld ?_
        refine on_ 22 (none) rfl rfl (fun K hK => ?_)
        have yc0 := blk_cell HR.out 0
        have yf0 : V.frozen? ⟨w.heap.size, 0, none⟩ = false := blk_frozen HR.out 0
        have yc1 := blk_cell HR.out 1
        have yf1 : V.frozen? ⟨w.heap.size, 1, none⟩ = false := blk_frozen HR.out 1
        have yc2 := blk_cell HR.out 2
        have yf2 : V.frozen? ⟨w.heap.size, 2, none⟩ = false := blk_frozen HR.out 2
        have yc3 := blk_cell HR.out 3
        have yf3 : V.frozen? ⟨w.heap.size, 3, none⟩ = false := blk_frozen HR.out 3
        have yc4 := blk_cell HR.out 4
        have yf4 : V.frozen? ⟨w.heap.size, 4, none⟩ = false := blk_frozen HR.out 4
        have yc5 := blk_cell HR.out 5
        have yf5 : V.frozen? ⟨w.heap.size, 5, none⟩ = false := blk_frozen HR.out 5
        refine skip_ (w1 := ?_) (by rfl) rfl ?_ ?_
        rotate_left
        ·go_simp
         rfl
        refine hK.out _ _ z109_ (fun hHeld => ?_)
        clear hK K
        refine pu_ 23 (some 3) rfl rfl ?_
        refine done_ z11_ ?_
        go_wp2
        exact bodyPost_ret (results_ct rfl _ _ w.heap.size 150 (link_read.cs 2 x0 x1 x2 x3 s) (0, 0) _ rfl (blk_put (blk_put (blk_put (blk_put (blk_put (blk_put HR.out 0 _ rfl) 1 _ rfl) 2 _ rfl) 3 _ rfl) 4 _ rfl) 5 _ rfl) Try.underlying150 rfl z11_) rfl ⟨by simp only [link_read.ok]; simp [hs0], below_set (below_set (below_set (below_set (below_set (below_set HW.out (Nat.le_refl _)) (Nat.le_refl _)) (Nat.le_refl _)) (Nat.le_refl _)) (Nat.le_refl _)) (Nat.le_refl _)⟩
      ·have d1 : decide ((s.size : Int) ≤ 512) = false := decide_eq_false z2_
       have d2 : decide (s.size ≤ 512) = false := decide_eq_false c1
       refine st_ 24 (S := fun w' => w'.cell? ⟨gh, 0, none⟩ = some (.int .i64 2) ∧ w'.cell? ⟨gh, 1, none⟩ = some (.int .i64 x0) ∧ w'.cell? ⟨gh, 2, none⟩ = some (.int .i64 x1) ∧ w'.cell? ⟨gh, 3, none⟩ = some (.int .i64 x2) ∧ w'.cell? ⟨gh, 4, none⟩ = some (.int .i64 x3) ∧ w'.cell? ⟨gh, 5, none⟩ = some (.string s)) (ds := []) ⟨(blk_cell HX.out 0).trans rfl, (blk_cell HX.out 1).trans rfl, (blk_cell HX.out 2).trans rfl, (blk_cell HX.out 3).trans rfl, (blk_cell HX.out 4).trans rfl, (blk_cell HX.out 5).trans rfl⟩ (fun hHeld => ?_)
       generalize W.drew = V at HX HR HW hHeld ⊢
       refine pu_ 1 (some 54) rfl rfl ?_
       refine pu_ 2 (some 55) rfl rfl ?_
       refine pu_ 3 (some 56) rfl rfl ?_
       refine pu_ 4 (some 57) rfl rfl ?_
       refine pv_ 5 (some 58) rfl rfl ?_
       refine pv_ 6 (some 59) rfl rfl ?_
       refine pv_ 7 (some 60) rfl rfl ?_
       refine pv_ 8 (some 61) rfl rfl ?_
       refine pv_ 9 (some 62) rfl rfl ?_
       refine pv_ 10 (some 63) rfl rfl ?_
       refine pv_ 11 (some 64) rfl rfl ?_
       refine pv_ 12 (some 65) rfl rfl ?_
       refine pv_ 13 (some 66) rfl rfl ?_
       refine pv_ 14 (some 67) rfl rfl ?_
       refine pv_ 15 (some 68) rfl rfl ?_
       refine pu_ 16 (some 69) rfl rfl ?_
       refine pu_ 17 (some 70) rfl rfl ?_
       refine pv_ 18 (some 71) rfl rfl ?_
       refine pv_ 19 (some 72) rfl rfl ?_
       refine pv_ 20 (some 73) rfl rfl ?_
       refine pu_ 21 (some 74) rfl rfl ?_
       refine ta_ 0 (some 53) rfl rfl hHeld ?_
       refine on_ 22 (none) rfl rfl (fun K hK => ?_)
       have yc0 := blk_cell HR.out 0
       have yf0 : V.frozen? ⟨w.heap.size, 0, none⟩ = false := blk_frozen HR.out 0
       have yc1 := blk_cell HR.out 1
       have yf1 : V.frozen? ⟨w.heap.size, 1, none⟩ = false := blk_frozen HR.out 1
       have yc2 := blk_cell HR.out 2
       have yf2 : V.frozen? ⟨w.heap.size, 2, none⟩ = false := blk_frozen HR.out 2
       have yc3 := blk_cell HR.out 3
       have yf3 : V.frozen? ⟨w.heap.size, 3, none⟩ = false := blk_frozen HR.out 3
       have yc4 := blk_cell HR.out 4
       have yf4 : V.frozen? ⟨w.heap.size, 4, none⟩ = false := blk_frozen HR.out 4
       have yc5 := blk_cell HR.out 5
       have yf5 : V.frozen? ⟨w.heap.size, 5, none⟩ = false := blk_frozen HR.out 5
       refine skip_ (w1 := ?_) (by rfl) rfl ?_ ?_
       rotate_left
       ·go_simp
        rfl
       refine hK.out _ _ z109_ (fun hHeld => ?_)
       clear hK K
       refine pu_ 23 (some 3) rfl rfl ?_
       refine done_ z11_ ?_
       go_wp2
       exact bodyPost_ret (results_ct rfl _ _ w.heap.size 150 (link_read.cs 2 x0 x1 x2 x3 s) (0, 0) _ rfl (blk_put (blk_put (blk_put (blk_put (blk_put (blk_put HR.out 0 _ rfl) 1 _ rfl) 2 _ rfl) 3 _ rfl) 4 _ rfl) 5 _ rfl) Try.underlying150 rfl z11_) rfl ⟨z110_, below_set (below_set (below_set (below_set (below_set (below_set HW.out (Nat.le_refl _)) (Nat.le_refl _)) (Nat.le_refl _)) (Nat.le_refl _)) (Nat.le_refl _)) (Nat.le_refl _)⟩
  ·rw [if_neg hk] at h
   obtain rfl := Option.some.inj h
   have d1 : (kind != 1) = true := bne_iff_ne.2 (fun h => hk (.inl h))
   have d2 : (kind != 2) = true := bne_iff_ne.2 (fun h => hk (.inr h))
   have d3 : (kind == 1) = false := beq_eq_false_iff_ne.2 (fun h => hk (.inl h))
   have d4 : (kind == 2) = false := beq_eq_false_iff_ne.2 (fun h => hk (.inr h))
   clear h hk
   go_enter Try.func68, Try.ntmps68
   go_wp2_with fail
   (with_reducible refine (frame_Open.calls k a0 _ body _ _ HO.out).mono ?_)
   rintro e w1 ⟨rfl, hb⟩
   have HB1 := a0_ (below_step (below_alloc HB.out _) hb)
   have BR := a0_ (blk_below (blk_new w _) hb)
   have HZ := a0_ (show w.heap.size < w1.heap.size from z106_)
   clear hb
   have rc0 := blk_cell BR.out 0
   have rf0 : w1.frozen? ⟨w.heap.size, 0, none⟩ = false := blk_frozen BR.out 0
   have rc1 := blk_cell BR.out 1
   have rf1 : w1.frozen? ⟨w.heap.size, 1, none⟩ = false := blk_frozen BR.out 1
   have rc2 := blk_cell BR.out 2
   have rf2 : w1.frozen? ⟨w.heap.size, 2, none⟩ = false := blk_frozen BR.out 2
   have rc3 := blk_cell BR.out 3
   have rf3 : w1.frozen? ⟨w.heap.size, 3, none⟩ = false := blk_frozen BR.out 3
   have rc4 := blk_cell BR.out 4
   have rf4 : w1.frozen? ⟨w.heap.size, 4, none⟩ = false := blk_frozen BR.out 4
   have rc5 := blk_cell BR.out 5
   have rf5 : w1.frozen? ⟨w.heap.size, 5, none⟩ = false := blk_frozen BR.out 5
   go_wp2
   exact qpx130_
 ·rw [if_neg he] at h
  obtain rfl := Option.some.inj h
  have d1 : (e != 0) = true := bne_iff_ne.2 he
  have d2 : (e == 0) = false := beq_eq_false_iff_ne.2 he
  clear h he
  go_enter Try.func68, Try.ntmps68
  go_wp2_with fail
  (with_reducible refine (frame_Open.calls k a0 _ body _ _ HO.out).mono ?_)
  rintro e w1 ⟨rfl, hb⟩
  have HB1 := a0_ (below_step (below_alloc HB.out _) hb)
  have BR := a0_ (blk_below (blk_new w _) hb)
  have HZ := a0_ (show w.heap.size < w1.heap.size from z106_)
  clear hb
  have rc0 := blk_cell BR.out 0
  have rf0 : w1.frozen? ⟨w.heap.size, 0, none⟩ = false := blk_frozen BR.out 0
  have rc1 := blk_cell BR.out 1
  have rf1 : w1.frozen? ⟨w.heap.size, 1, none⟩ = false := blk_frozen BR.out 1
  have rc2 := blk_cell BR.out 2
  have rf2 : w1.frozen? ⟨w.heap.size, 2, none⟩ = false := blk_frozen BR.out 2
  have rc3 := blk_cell BR.out 3
  have rf3 : w1.frozen? ⟨w.heap.size, 3, none⟩ = false := blk_frozen BR.out 3
  have rc4 := blk_cell BR.out 4
  have rf4 : w1.frozen? ⟨w.heap.size, 4, none⟩ = false := blk_frozen BR.out 4
  have rc5 := blk_cell BR.out 5
  have rf5 : w1.frozen? ⟨w.heap.size, 5, none⟩ = false := blk_frozen BR.out 5
  go_wp2
  exact qpx130_
theorem link_read.calls (k : Nat) (a0 : ByteArray) (r1 r2 r3 r4 r5 : Int) (r6 : ByteArray) (r7 : Bool) (w : World) (h : link_read.f k a0 = some (r1, r2, r3, r4, r5, r6, r7)) :
  Calls Try.prog 68 #[.string a0] w fun e w' => e = .returned (.tuple #[.agg #[.int .i64 r1, .int .i64 r2, .int .i64 r3, .int .i64 r4, .int .i64 r5, .string r6], .bool r7]) ∧ Below w.heap.size w w' :=
 link_read.walk k a0 (r1, r2, r3, r4, r5, r6, r7) w h
end Go.Proofs.Ytecfndblgefhdaa.P
