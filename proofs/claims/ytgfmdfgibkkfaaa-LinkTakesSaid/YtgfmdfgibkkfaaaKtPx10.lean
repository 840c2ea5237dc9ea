import Derived.Test.YtgfmdfgibkkfaaaKtPx0
import Derived.Test.YtgfmdfgibkkfaaaKtPx8
import Derived.Test.YtgfmdfgibkkfaaaKtPx9
namespace Go.Proofs.Ytgfmdfgibkkfaaa.P
open Go.RowKit Go.Proofs.YtgfmdfgibkkfaaaW.PrintWords Go.Proofs.YtgfmdfgibkkfaaaW.PrintLast Go.Proofs.YtgfmdfgibkkfaaaW.PrintMore
attribute [local go_sem] max2_int min2_int max_two min_two max_three min_three max_four min_four
set_option linter.unusedVariables false
set_option linter.unusedSimpArgs false
theorem qpx100_ {p : Prop} (h : p := by exact bodyPost_ret (results_list (rs := [.tmp 2, .cell 3 68, .tmp 4]) rfl (by simp) (.tmp (.cell w.heap.size 68 #[.int .i64 0, .int .i64 0, .int .i64 0, .int .i64 0] (0, 0) _ rfl (blk_put (blk_put (blk_put (blk_put (HR.out) 0 _ rfl) 1 _ rfl) 2 _ rfl) 3 _ rfl) Try.underlying68 rfl (by kernel_rfl) (.tmp .nil)))) rfl ⟨rfl, below_set (below_set (below_set (below_set (HW.out) (Nat.le_refl _)) (Nat.le_refl _)) (Nat.le_refl _)) (Nat.le_refl _)⟩) : p := h
def counterfoilref15_Heard.ok (kind x0 x2 : Int) (b : ByteArray) : Bool := !(decide (x0 < 1 ∨ 1099511627776 < x0)) && !(decide (kind = 2) && (decide (x2 ≠ 0) || decide (32 < b.size)))
def counterfoilref15_Heard.no : Int × Int × Int × Int × Int × ByteArray := (0, 0, 0, 0, 0, (⟨#[]⟩ : ByteArray))
def counterfoilref15_Heard.get (k : Nat) (b : ByteArray) (i : Nat) : Option (Int × Int) := counterfoilref01_Get.f k (b.extract (8 * i) (8 * i + 8))
def counterfoilref15_Heard.f (k : Nat) (a0 : ByteArray) : Option (Int × Int × Int × Int × Int × ByteArray) := (counterfoilref03_Open.f k a0).bind fun o => if o.2.2 = 0 ∧ (o.1 = 1 ∨ o.1 = 2) ∧ 32 ≤ o.2.1.size ∧ o.2.1.size ≤ 544 then
  (counterfoilref15_Heard.get k o.2.1 0).bind fun n0 => if n0.2 = 0 then
   (counterfoilref15_Heard.get k o.2.1 1).bind fun n1 => if n1.2 = 0 then
    (counterfoilref15_Heard.get k o.2.1 2).bind fun n2 => if n2.2 = 0 then
     (counterfoilref15_Heard.get k o.2.1 3).bind fun n3 => if n3.2 = 0 then
      (if counterfoilref15_Heard.ok o.1 n0.1 n2.1 o.2.1 = true then some (o.1, n0.1, n1.1, n2.1, n3.1, o.2.1.extract 32 o.2.1.size) else some counterfoilref15_Heard.no)
     else some counterfoilref15_Heard.no
    else some counterfoilref15_Heard.no
   else some counterfoilref15_Heard.no
  else some counterfoilref15_Heard.no
 else some counterfoilref15_Heard.no
def counterfoilref15_Heard.Inv (w wr : World) (gn : Nat) (x0 x1 x2 x3 : Int) : Prop :=
 wr.heap[gn]? = some (.cells #[.int .i64 x0, .int .i64 x1, .int .i64 x2, .int .i64 x3] 68 (0, 0)) ∧
 wr.heap[w.heap.size]? = some (.cells #[.int .i64 0, .int .i64 0, .int .i64 0, .int .i64 0] 68 (0, 0)) ∧ Below w.heap.size w wr ∧ w.heap.size < gn
theorem counterfoilref15_Heard.Inv_set {w wr : World} {gn : Nat} {x0 x1 x2 x3 y0 y1 y2 y3 v : Int} (h : counterfoilref15_Heard.Inv w wr gn x0 x1 x2 x3) (i : Nat) (n : Nat)
  (e : (#[.int .i64 x0, .int .i64 x1, .int .i64 x2, .int .i64 x3] : Array Value).setIfInBounds i (.int .i64 v) = #[.int .i64 y0, .int .i64 y1, .int .i64 y2, .int .i64 y3]) :
  counterfoilref15_Heard.Inv w ((wr.drewN n).setCell ⟨gn, i, none⟩ (.int .i64 v)) gn y0 y1 y2 y3 := by
 obtain ⟨h1, h2, h3, h4⟩ := h
 exact ⟨blk_put (blk_drewN h1 n) i _ e, blk_far (blk_drewN h2 n) (by show w.heap.size ≠ gn; omega) _, below_set (pw_below_drewN h3 n) (by omega), h4⟩
def counterfoilref15_Heard.end_ (kind x0 x1 x2 x3 : Int) (b : ByteArray) : Option (Int × Int × Int × Int × Int × ByteArray) := if counterfoilref15_Heard.ok kind x0 x2 b = true then some (kind, x0, x1, x2, x3, b.extract 32 b.size) else some counterfoilref15_Heard.no
def counterfoilref15_Heard.at_ (k : Nat) (kind : Int) (b : ByteArray) : Nat → Int → Int → Int → Int → Option (Int × Int × Int × Int × Int × ByteArray)
 | 0, _, _, _, _ => (counterfoilref15_Heard.get k b 0).bind fun n0 => if n0.2 = 0 then (counterfoilref15_Heard.get k b 1).bind fun n1 => if n1.2 = 0 then (counterfoilref15_Heard.get k b 2).bind fun n2 => if n2.2 = 0 then (counterfoilref15_Heard.get k b 3).bind fun n3 => if n3.2 = 0 then counterfoilref15_Heard.end_ kind n0.1 n1.1 n2.1 n3.1 b else some counterfoilref15_Heard.no else some counterfoilref15_Heard.no else some counterfoilref15_Heard.no else some counterfoilref15_Heard.no
 | 1, x0, _, _, _ => (counterfoilref15_Heard.get k b 1).bind fun n1 => if n1.2 = 0 then (counterfoilref15_Heard.get k b 2).bind fun n2 => if n2.2 = 0 then (counterfoilref15_Heard.get k b 3).bind fun n3 => if n3.2 = 0 then counterfoilref15_Heard.end_ kind x0 n1.1 n2.1 n3.1 b else some counterfoilref15_Heard.no else some counterfoilref15_Heard.no else some counterfoilref15_Heard.no
 | 2, x0, x1, _, _ => (counterfoilref15_Heard.get k b 2).bind fun n2 => if n2.2 = 0 then (counterfoilref15_Heard.get k b 3).bind fun n3 => if n3.2 = 0 then counterfoilref15_Heard.end_ kind x0 x1 n2.1 n3.1 b else some counterfoilref15_Heard.no else some counterfoilref15_Heard.no
 | 3, x0, x1, x2, _ => (counterfoilref15_Heard.get k b 3).bind fun n3 => if n3.2 = 0 then counterfoilref15_Heard.end_ kind x0 x1 x2 n3.1 b else some counterfoilref15_Heard.no
 | _, x0, x1, x2, x3 => counterfoilref15_Heard.end_ kind x0 x1 x2 x3 b
set_option maxHeartbeats 4000000 in
set_option maxRecDepth 100000 in
theorem counterfoilref15_Heard.walk (k : Nat) (a0 : ByteArray) (R : Int × Int × Int × Int × Int × ByteArray) (w : World) (h : counterfoilref15_Heard.f k a0 = some R) :
  Calls Try.prog 30 #[.string a0] w fun e w' => e = .returned (.tuple #[.int .i64 R.1, .agg #[.int .i64 R.2.1, .int .i64 R.2.2.1, .int .i64 R.2.2.2.1, .int .i64 R.2.2.2.2.1], .string R.2.2.2.2.2]) ∧ Below w.heap.size w w' := by
 have HB := Aside0.mk (Below.refl w.heap.size w)
 unfold counterfoilref15_Heard.f at h
 replace h := Option.bind_eq_some_iff.1 h
 obtain ⟨⟨kind, body, e⟩, ho, h⟩ := h
 simp only at h
 have HO := Aside0.mk ho
 clear ho
 by_cases hc : e = 0 ∧ (kind = 1 ∨ kind = 2) ∧ 32 ≤ body.size ∧ body.size ≤ 544
 ·rw [if_pos hc] at h
  obtain ⟨rfl, hk, hs1, hs2⟩ := hc
  have HA : Aside0 (counterfoilref15_Heard.at_ k kind body 0 0 0 0 0 = some R) := ⟨h⟩
  clear h
  have b1 : decide ((body.size : Int) < 32) = false := decide_eq_false (by omega)
  have b2 : decide (544 < (body.size : Int)) = false := decide_eq_false (by omega)
  have b3 : decide (body.size < 32) = false := decide_eq_false (by omega)
  have b4 : decide (544 < body.size) = false := decide_eq_false (by omega)
  have s1 : (8 : Int) ≤ (body.size : Int) := by omega
  have s2 : (16 : Int) ≤ (body.size : Int) := by omega
  have s3 : (24 : Int) ≤ (body.size : Int) := by omega
  have s4 : (32 : Int) ≤ (body.size : Int) := by omega
  have t1 : 8 ≤ body.size := by omega
  have t2 : 16 ≤ body.size := by omega
  have t3 : 24 ≤ body.size := by omega
  rcases hk with rfl | rfl
  ·skip
   go_enter Try.func30, Try.ntmps30
   go_wp2_with fail
   (with_reducible refine (counterfoilref03_Open.calls k a0 _ body _ _ HO.out).mono ?_)
   rintro e w1 ⟨rfl, hb⟩
   have HB1 := Aside0.mk (below_step (below_alloc (below_alloc HB.out _) _) hb)
   have BR := Aside0.mk (blk_below (blk_alloc (blk_new w _) _) hb)
   have BN := Aside0.mk (blk_below (blk_new (w.alloc _) _) hb)
   clear hb
   go_wp2
   go_loopw [9] (fun i wr => ∃ (j : Nat) (x0 x1 x2 x3 : Int), j ≤ 4 ∧ i = .int .i64 j ∧ Aside0 (counterfoilref15_Heard.Inv w wr (w.heap.size + 1) x0 x1 x2 x3) ∧ Aside0 (counterfoilref15_Heard.at_ k 1 body j x0 x1 x2 x3 = some R)) (fun i _ => 4 - (intOf i).toNat)
   case atStart => exact ⟨0, 0, 0, 0, 0, by omega, rfl, ⟨by simpa using BN.out, BR.out, HB1.out, by omega⟩, HA⟩
   case round =>
    obtain ⟨j, x0, x1, x2, x3, hj, rfl, HI, HA2⟩ := hrel
    clear HA
    have HG := Aside0.mk (show w.heap.size < w.heap.size + 1 by omega)
    generalize w.heap.size + 1 = gn at *
    obtain ⟨wo, rfl⟩ : ∃ wo : World, wo = wr := ⟨_, rfl⟩
    rcases (show j = 0 ∨ j = 1 ∨ j = 2 ∨ j = 3 ∨ j = 4 by omega) with rfl | rfl | rfl | rfl | rfl
    ·have hn := HA2.out
     simp only [counterfoilref15_Heard.at_, counterfoilref15_Heard.get] at hn
     clear HA2
     replace hn := Option.bind_eq_some_iff.1 hn
     obtain ⟨⟨v, e⟩, hv, hn⟩ := hn
     simp only at hn
     have HV : Aside0 (counterfoilref01_Get.f k (body.extract 0 8) = some (v, e)) := ⟨hv⟩
     clear hv
     have hc : wo.cell? ⟨gn, 0, none⟩ = some (.int .i64 x0) := (blk_cell HI.out.1 0).trans rfl
     have hf : wo.frozen? ⟨gn, 0, none⟩ = false := blk_frozen HI.out.1 0
     have hne1 : w.heap.size ≠ gn := by have := HG.out; omega
     have hne2 : gn ≠ w.heap.size := by have := HG.out; omega
     by_cases he : e = 0
     ·subst he
      rw [if_pos rfl] at hn
      have HA3 : Aside0 (counterfoilref15_Heard.at_ k 1 body 1 v x1 x2 x3 = some R) := ⟨hn⟩
      clear hn
      go_wp2_with fail
      (with_reducible refine (counterfoilref01_Get.calls k (body.extract 0 8) v 0 _ HV.out).mono ?_)
      rintro e w2 ⟨rfl, n, rfl⟩
      go_wp2
      go_roundw
      case rel => exact ⟨1, v, x1, x2, x3, by omega, by go_num, ⟨counterfoilref15_Heard.Inv_set HI.out 0 n rfl⟩, HA3⟩
      case measure => simp [intOf]
     ·rw [if_neg he] at hn
      obtain rfl := Option.some.inj hn
      have d1 : (e != 0) = true := bne_iff_ne.2 he
      have d2 : (e == 0) = false := beq_eq_false_iff_ne.2 he
      clear he hn
      have rc0 : wo.cell? ⟨w.heap.size, 0, none⟩ = some (.int .i64 0) := (blk_cell HI.out.2.1 0).trans rfl
      have rf0 : wo.frozen? ⟨w.heap.size, 0, none⟩ = false := blk_frozen HI.out.2.1 0
      have rc1 : wo.cell? ⟨w.heap.size, 1, none⟩ = some (.int .i64 0) := (blk_cell HI.out.2.1 1).trans rfl
      have rf1 : wo.frozen? ⟨w.heap.size, 1, none⟩ = false := blk_frozen HI.out.2.1 1
      have rc2 : wo.cell? ⟨w.heap.size, 2, none⟩ = some (.int .i64 0) := (blk_cell HI.out.2.1 2).trans rfl
      have rf2 : wo.frozen? ⟨w.heap.size, 2, none⟩ = false := blk_frozen HI.out.2.1 2
      have rc3 : wo.cell? ⟨w.heap.size, 3, none⟩ = some (.int .i64 0) := (blk_cell HI.out.2.1 3).trans rfl
      have rf3 : wo.frozen? ⟨w.heap.size, 3, none⟩ = false := blk_frozen HI.out.2.1 3
      go_wp2_with fail
      (with_reducible refine (counterfoilref01_Get.calls k (body.extract 0 8) v e _ HV.out).mono ?_)
      rintro e w2 ⟨rfl, n, rfl⟩
      have HR := Aside0.mk (blk_drewN HI.out.2.1 n)
      have HW := Aside0.mk (pw_below_drewN HI.out.2.2.1 n)
      go_wp2
      exact qpx100_
    ·have hn := HA2.out
     simp only [counterfoilref15_Heard.at_, counterfoilref15_Heard.get] at hn
     clear HA2
     replace hn := Option.bind_eq_some_iff.1 hn
     obtain ⟨⟨v, e⟩, hv, hn⟩ := hn
     simp only at hn
     have HV : Aside0 (counterfoilref01_Get.f k (body.extract 8 16) = some (v, e)) := ⟨hv⟩
     clear hv
     have hc : wo.cell? ⟨gn, 1, none⟩ = some (.int .i64 x1) := (blk_cell HI.out.1 1).trans rfl
     have hf : wo.frozen? ⟨gn, 1, none⟩ = false := blk_frozen HI.out.1 1
     have hne1 : w.heap.size ≠ gn := by have := HG.out; omega
     have hne2 : gn ≠ w.heap.size := by have := HG.out; omega
     by_cases he : e = 0
     ·subst he
      rw [if_pos rfl] at hn
      have HA3 : Aside0 (counterfoilref15_Heard.at_ k 1 body 2 x0 v x2 x3 = some R) := ⟨hn⟩
      clear hn
      go_wp2_with fail
      (with_reducible refine (counterfoilref01_Get.calls k (body.extract 8 16) v 0 _ HV.out).mono ?_)
      rintro e w2 ⟨rfl, n, rfl⟩
      go_wp2
      go_roundw
      case rel => exact ⟨2, x0, v, x2, x3, by omega, by go_num, ⟨counterfoilref15_Heard.Inv_set HI.out 1 n rfl⟩, HA3⟩
      case measure => simp [intOf]
     ·rw [if_neg he] at hn
      obtain rfl := Option.some.inj hn
      have d1 : (e != 0) = true := bne_iff_ne.2 he
      have d2 : (e == 0) = false := beq_eq_false_iff_ne.2 he
      clear he hn
      have rc0 : wo.cell? ⟨w.heap.size, 0, none⟩ = some (.int .i64 0) := (blk_cell HI.out.2.1 0).trans rfl
      have rf0 : wo.frozen? ⟨w.heap.size, 0, none⟩ = false := blk_frozen HI.out.2.1 0
      have rc1 : wo.cell? ⟨w.heap.size, 1, none⟩ = some (.int .i64 0) := (blk_cell HI.out.2.1 1).trans rfl
      have rf1 : wo.frozen? ⟨w.heap.size, 1, none⟩ = false := blk_frozen HI.out.2.1 1
      have rc2 : wo.cell? ⟨w.heap.size, 2, none⟩ = some (.int .i64 0) := (blk_cell HI.out.2.1 2).trans rfl
      have rf2 : wo.frozen? ⟨w.heap.size, 2, none⟩ = false := blk_frozen HI.out.2.1 2
      have rc3 : wo.cell? ⟨w.heap.size, 3, none⟩ = some (.int .i64 0) := (blk_cell HI.out.2.1 3).trans rfl
      have rf3 : wo.frozen? ⟨w.heap.size, 3, none⟩ = false := blk_frozen HI.out.2.1 3
      go_wp2_with fail
      (with_reducible refine (counterfoilref01_Get.calls k (body.extract 8 16) v e _ HV.out).mono ?_)
      rintro e w2 ⟨rfl, n, rfl⟩
      have HR := Aside0.mk (blk_drewN HI.out.2.1 n)
      have HW := Aside0.mk (pw_below_drewN HI.out.2.2.1 n)
      go_wp2
      exact qpx100_
    ·have hn := HA2.out
     simp only [counterfoilref15_Heard.at_, counterfoilref15_Heard.get] at hn
     clear HA2
     replace hn := Option.bind_eq_some_iff.1 hn
     obtain ⟨⟨v, e⟩, hv, hn⟩ := hn
     simp only at hn
     have HV : Aside0 (counterfoilref01_Get.f k (body.extract 16 24) = some (v, e)) := ⟨hv⟩
     clear hv
     have hc : wo.cell? ⟨gn, 2, none⟩ = some (.int .i64 x2) := (blk_cell HI.out.1 2).trans rfl
     have hf : wo.frozen? ⟨gn, 2, none⟩ = false := blk_frozen HI.out.1 2
     have hne1 : w.heap.size ≠ gn := by have := HG.out; omega
     have hne2 : gn ≠ w.heap.size := by have := HG.out; omega
     by_cases he : e = 0
     ·subst he
      rw [if_pos rfl] at hn
      have HA3 : Aside0 (counterfoilref15_Heard.at_ k 1 body 3 x0 x1 v x3 = some R) := ⟨hn⟩
      clear hn
      go_wp2_with fail
      (with_reducible refine (counterfoilref01_Get.calls k (body.extract 16 24) v 0 _ HV.out).mono ?_)
      rintro e w2 ⟨rfl, n, rfl⟩
      go_wp2
      go_roundw
      case rel => exact ⟨3, x0, x1, v, x3, by omega, by go_num, ⟨counterfoilref15_Heard.Inv_set HI.out 2 n rfl⟩, HA3⟩
      case measure => simp [intOf]
     ·rw [if_neg he] at hn
      obtain rfl := Option.some.inj hn
      have d1 : (e != 0) = true := bne_iff_ne.2 he
      have d2 : (e == 0) = false := beq_eq_false_iff_ne.2 he
      clear he hn
      have rc0 : wo.cell? ⟨w.heap.size, 0, none⟩ = some (.int .i64 0) := (blk_cell HI.out.2.1 0).trans rfl
      have rf0 : wo.frozen? ⟨w.heap.size, 0, none⟩ = false := blk_frozen HI.out.2.1 0
      have rc1 : wo.cell? ⟨w.heap.size, 1, none⟩ = some (.int .i64 0) := (blk_cell HI.out.2.1 1).trans rfl
      have rf1 : wo.frozen? ⟨w.heap.size, 1, none⟩ = false := blk_frozen HI.out.2.1 1
      have rc2 : wo.cell? ⟨w.heap.size, 2, none⟩ = some (.int .i64 0) := (blk_cell HI.out.2.1 2).trans rfl
      have rf2 : wo.frozen? ⟨w.heap.size, 2, none⟩ = false := blk_frozen HI.out.2.1 2
      have rc3 : wo.cell? ⟨w.heap.size, 3, none⟩ = some (.int .i64 0) := (blk_cell HI.out.2.1 3).trans rfl
      have rf3 : wo.frozen? ⟨w.heap.size, 3, none⟩ = false := blk_frozen HI.out.2.1 3
      go_wp2_with fail
      (with_reducible refine (counterfoilref01_Get.calls k (body.extract 16 24) v e _ HV.out).mono ?_)
      rintro e w2 ⟨rfl, n, rfl⟩
      have HR := Aside0.mk (blk_drewN HI.out.2.1 n)
      have HW := Aside0.mk (pw_below_drewN HI.out.2.2.1 n)
      go_wp2
      exact qpx100_
    ·have hn := HA2.out
     simp only [counterfoilref15_Heard.at_, counterfoilref15_Heard.get] at hn
     clear HA2
     replace hn := Option.bind_eq_some_iff.1 hn
     obtain ⟨⟨v, e⟩, hv, hn⟩ := hn
     simp only at hn
     have HV : Aside0 (counterfoilref01_Get.f k (body.extract 24 32) = some (v, e)) := ⟨hv⟩
     clear hv
     have hc : wo.cell? ⟨gn, 3, none⟩ = some (.int .i64 x3) := (blk_cell HI.out.1 3).trans rfl
     have hf : wo.frozen? ⟨gn, 3, none⟩ = false := blk_frozen HI.out.1 3
     have hne1 : w.heap.size ≠ gn := by have := HG.out; omega
     have hne2 : gn ≠ w.heap.size := by have := HG.out; omega
     by_cases he : e = 0
     ·subst he
      rw [if_pos rfl] at hn
      have HA3 : Aside0 (counterfoilref15_Heard.at_ k 1 body 4 x0 x1 x2 v = some R) := ⟨hn⟩
      clear hn
      go_wp2_with fail
      (with_reducible refine (counterfoilref01_Get.calls k (body.extract 24 32) v 0 _ HV.out).mono ?_)
      rintro e w2 ⟨rfl, n, rfl⟩
      go_wp2
      go_roundw
      case rel => exact ⟨4, x0, x1, x2, v, by omega, by go_num, ⟨counterfoilref15_Heard.Inv_set HI.out 3 n rfl⟩, HA3⟩
      case measure => simp [intOf]
     ·rw [if_neg he] at hn
      obtain rfl := Option.some.inj hn
      have d1 : (e != 0) = true := bne_iff_ne.2 he
      have d2 : (e == 0) = false := beq_eq_false_iff_ne.2 he
      clear he hn
      have rc0 : wo.cell? ⟨w.heap.size, 0, none⟩ = some (.int .i64 0) := (blk_cell HI.out.2.1 0).trans rfl
      have rf0 : wo.frozen? ⟨w.heap.size, 0, none⟩ = false := blk_frozen HI.out.2.1 0
      have rc1 : wo.cell? ⟨w.heap.size, 1, none⟩ = some (.int .i64 0) := (blk_cell HI.out.2.1 1).trans rfl
      have rf1 : wo.frozen? ⟨w.heap.size, 1, none⟩ = false := blk_frozen HI.out.2.1 1
      have rc2 : wo.cell? ⟨w.heap.size, 2, none⟩ = some (.int .i64 0) := (blk_cell HI.out.2.1 2).trans rfl
      have rf2 : wo.frozen? ⟨w.heap.size, 2, none⟩ = false := blk_frozen HI.out.2.1 2
      have rc3 : wo.cell? ⟨w.heap.size, 3, none⟩ = some (.int .i64 0) := (blk_cell HI.out.2.1 3).trans rfl
      have rf3 : wo.frozen? ⟨w.heap.size, 3, none⟩ = false := blk_frozen HI.out.2.1 3
      go_wp2_with fail
      (with_reducible refine (counterfoilref01_Get.calls k (body.extract 24 32) v e _ HV.out).mono ?_)
      rintro e w2 ⟨rfl, n, rfl⟩
      have HR := Aside0.mk (blk_drewN HI.out.2.1 n)
      have HW := Aside0.mk (pw_below_drewN HI.out.2.2.1 n)
      go_wp2
      exact qpx100_
    ·have HA3 : Aside0 (counterfoilref15_Heard.end_ 1 x0 x1 x2 x3 body = some R) := HA2
     clear HA2
     have HN := Aside0.mk HI.out.1
     have HR := Aside0.mk HI.out.2.1
     have HW := Aside0.mk HI.out.2.2.1
     have hne1 : w.heap.size ≠ gn := by have := HG.out; omega
     have hne2 : gn ≠ w.heap.size := by have := HG.out; omega
     have nc0 : wo.cell? ⟨gn, 0, none⟩ = some (.int .i64 x0) := (blk_cell HN.out 0).trans rfl
     have nc1 : wo.cell? ⟨gn, 1, none⟩ = some (.int .i64 x1) := (blk_cell HN.out 1).trans rfl
     have nc2 : wo.cell? ⟨gn, 2, none⟩ = some (.int .i64 x2) := (blk_cell HN.out 2).trans rfl
     have nc3 : wo.cell? ⟨gn, 3, none⟩ = some (.int .i64 x3) := (blk_cell HN.out 3).trans rfl
     by_cases q1 : x0 < 1
     ·skip
      have hR := HA3.out
      unfold counterfoilref15_Heard.end_ at hR
      rw [if_neg (by simp [counterfoilref15_Heard.ok]; omega)] at hR
      obtain rfl := Option.some.inj hR
      clear hR HA3
      have d1 : decide (x0 < 1) = true := decide_eq_true (by omega)
      have rc0 : wo.cell? ⟨w.heap.size, 0, none⟩ = some (.int .i64 0) := (blk_cell HR.out 0).trans rfl
      have rf0 : wo.frozen? ⟨w.heap.size, 0, none⟩ = false := blk_frozen HR.out 0
      have rc1 : wo.cell? ⟨w.heap.size, 1, none⟩ = some (.int .i64 0) := (blk_cell HR.out 1).trans rfl
      have rf1 : wo.frozen? ⟨w.heap.size, 1, none⟩ = false := blk_frozen HR.out 1
      have rc2 : wo.cell? ⟨w.heap.size, 2, none⟩ = some (.int .i64 0) := (blk_cell HR.out 2).trans rfl
      have rf2 : wo.frozen? ⟨w.heap.size, 2, none⟩ = false := blk_frozen HR.out 2
      have rc3 : wo.cell? ⟨w.heap.size, 3, none⟩ = some (.int .i64 0) := (blk_cell HR.out 3).trans rfl
      have rf3 : wo.frozen? ⟨w.heap.size, 3, none⟩ = false := blk_frozen HR.out 3
      go_wp2
      exact qpx100_
     by_cases q2 : 1099511627776 < x0
     ·skip
      have hR := HA3.out
      unfold counterfoilref15_Heard.end_ at hR
      rw [if_neg (by simp [counterfoilref15_Heard.ok]; omega)] at hR
      obtain rfl := Option.some.inj hR
      clear hR HA3
      have d1 : decide (x0 < 1) = false := decide_eq_false (by omega)
      have d2 : decide (1099511627776 < x0) = true := decide_eq_true (by omega)
      have rc0 : wo.cell? ⟨w.heap.size, 0, none⟩ = some (.int .i64 0) := (blk_cell HR.out 0).trans rfl
      have rf0 : wo.frozen? ⟨w.heap.size, 0, none⟩ = false := blk_frozen HR.out 0
      have rc1 : wo.cell? ⟨w.heap.size, 1, none⟩ = some (.int .i64 0) := (blk_cell HR.out 1).trans rfl
      have rf1 : wo.frozen? ⟨w.heap.size, 1, none⟩ = false := blk_frozen HR.out 1
      have rc2 : wo.cell? ⟨w.heap.size, 2, none⟩ = some (.int .i64 0) := (blk_cell HR.out 2).trans rfl
      have rf2 : wo.frozen? ⟨w.heap.size, 2, none⟩ = false := blk_frozen HR.out 2
      have rc3 : wo.cell? ⟨w.heap.size, 3, none⟩ = some (.int .i64 0) := (blk_cell HR.out 3).trans rfl
      have rf3 : wo.frozen? ⟨w.heap.size, 3, none⟩ = false := blk_frozen HR.out 3
      go_wp2
      exact qpx100_
     have hR := HA3.out
     unfold counterfoilref15_Heard.end_ at hR
     rw [if_pos (by simp [counterfoilref15_Heard.ok]; omega)] at hR
     obtain rfl := Option.some.inj hR
     clear hR HA3
     have d1 : decide (x0 < 1) = false := decide_eq_false (by omega)
     have d2 : decide (1099511627776 < x0) = false := decide_eq_false (by omega)
     go_wp2
     have HX := Aside0.mk (blk_drew HN.out)
     replace HR := Aside0.mk (blk_drew HR.out)
     replace HW := Aside0.mk (below_drew1 HW.out)
     refine start_ (n := 7) (S := fun w' => w'.cell? ⟨gn, 0, none⟩ = some (.int .i64 x0) ∧ w'.cell? ⟨gn, 1, none⟩ = some (.int .i64 x1) ∧ w'.cell? ⟨gn, 2, none⟩ = some (.int .i64 x2) ∧ w'.cell? ⟨gn, 3, none⟩ = some (.int .i64 x3)) (ds := []) #[F_,F_,F_,F_,F_,F_,F_] (by kernel_rfl) rfl rfl ⟨(blk_cell HX.out 0).trans rfl, (blk_cell HX.out 1).trans rfl, (blk_cell HX.out 2).trans rfl, (blk_cell HX.out 3).trans rfl⟩ (fun hHeld => ?_)
     generalize World.drew wo = V at HX HR HW hHeld ⊢
     refine pure_ (i := 0) (N := some 83) (v := ?_) (a' := ?_) #[T_,F_,F_,F_,F_,F_,F_] rfl rfl (by kernel_rfl) (fun _ _ _ h => h) (Or.inl ⟨by rfl, ?_⟩) ?_ ?_
     rotate_left
     ·intro w'
      go_simp
      with_reducible rfl
     rotate_left
     ·exact put_
     refine pure_ (i := 2) (N := some 85) (v := ?_) (a' := ?_) #[T_,F_,T_,F_,F_,F_,F_] rfl rfl (by kernel_rfl) (fun _ _ _ h => h) (Or.inl ⟨by rfl, ?_⟩) ?_ ?_
     rotate_left
     ·intro w'
      go_simp
      with_reducible rfl
     rotate_left
     ·exact put_
     refine pure_ (i := 3) (N := some 86) (v := ?_) (a' := ?_) #[T_,F_,T_,T_,F_,F_,F_] rfl rfl (by kernel_rfl) (fun _ _ _ h => h) (Or.inl ⟨by rfl, ?_⟩) ?_ ?_
     rotate_left
     ·intro w'
      go_simp
      with_reducible rfl
     rotate_left
     ·exact put_
     refine pure_ (i := 4) (N := some 2) (v := ?_) (a' := ?_) #[T_,F_,T_,T_,T_,F_,F_] rfl rfl (by kernel_rfl) (fun _ _ _ h => h) (Or.inl ⟨by rfl, ?_⟩) ?_ ?_
     rotate_left
     ·intro w'
      go_simp
      with_reducible rfl
     rotate_left
     ·exact put_
     refine take_ (i := 1) (N := some 84) (v := ?_) (a' := ?_) #[T_,T_,T_,T_,T_,F_,F_] rfl rfl (by kernel_rfl) (fun _ _ _ h => h) (Or.inl ⟨by rfl, ?_⟩) hHeld ?_ ?_
     rotate_left
     ·rintro w' ⟨s0, s1, s2, s3⟩
      go_simp
      with_reducible rfl
     rotate_left
     ·exact put_
     refine one_ (i := 5) (N := none) #[T_,T_,T_,T_,T_,T_,F_] rfl rfl (by kernel_rfl) (by decide) (fun K hK => ?_)
     have yc0 : V.cell? ⟨w.heap.size, 0, none⟩ = some (.int .i64 0) := (blk_cell HR.out 0).trans rfl
     have yf0 : V.frozen? ⟨w.heap.size, 0, none⟩ = false := blk_frozen HR.out 0
     have yc1 : V.cell? ⟨w.heap.size, 1, none⟩ = some (.int .i64 0) := (blk_cell HR.out 1).trans rfl
     have yf1 : V.frozen? ⟨w.heap.size, 1, none⟩ = false := blk_frozen HR.out 1
     have yc2 : V.cell? ⟨w.heap.size, 2, none⟩ = some (.int .i64 0) := (blk_cell HR.out 2).trans rfl
     have yf2 : V.frozen? ⟨w.heap.size, 2, none⟩ = false := blk_frozen HR.out 2
     have yc3 : V.cell? ⟨w.heap.size, 3, none⟩ = some (.int .i64 0) := (blk_cell HR.out 3).trans rfl
     have yf3 : V.frozen? ⟨w.heap.size, 3, none⟩ = false := blk_frozen HR.out 3
     refine skip_ (w1 := ?_) (by rfl) rfl ?_ ?_
     rotate_left
     ·go_simp
      rfl
     refine hK.out _ _ ⟨far4_ hne2 (hHeld.1), far4_ hne2 (hHeld.2.1), far4_ hne2 (hHeld.2.2.1), far4_ hne2 (hHeld.2.2.2)⟩ (fun hHeld => ?_)
     clear hK K
     refine pure_ (i := 6) (N := some 4) (v := ?_) (a' := ?_) #[T_,T_,T_,T_,T_,T_,T_] rfl rfl (by kernel_rfl) (fun _ _ _ h => h) (Or.inl ⟨by rfl, ?_⟩) ?_ ?_
     rotate_left
     ·intro w'
      go_simp
      with_reducible rfl
     rotate_left
     ·exact put_
     refine done_ (by kernel_rfl) ?_
     go_wp2
     exact bodyPost_ret (results_list (rs := [.tmp 2, .cell 3 68, .tmp 4]) rfl (by simp) (.tmp (.cell w.heap.size 68 #[.int .i64 x0, .int .i64 x1, .int .i64 x2, .int .i64 x3] (0, 0) _ rfl (blk_put (blk_put (blk_put (blk_put (HR.out) 0 _ rfl) 1 _ rfl) 2 _ rfl) 3 _ rfl) Try.underlying68 rfl (by kernel_rfl) (.tmp .nil)))) rfl ⟨rfl, below_set (below_set (below_set (below_set (HW.out) (Nat.le_refl _)) (Nat.le_refl _)) (Nat.le_refl _)) (Nat.le_refl _)⟩
  ·skip
   go_enter Try.func30, Try.ntmps30
   go_wp2_with fail
   (with_reducible refine (counterfoilref03_Open.calls k a0 _ body _ _ HO.out).mono ?_)
   rintro e w1 ⟨rfl, hb⟩
   have HB1 := Aside0.mk (below_step (below_alloc (below_alloc HB.out _) _) hb)
   have BR := Aside0.mk (blk_below (blk_alloc (blk_new w _) _) hb)
   have BN := Aside0.mk (blk_below (blk_new (w.alloc _) _) hb)
   clear hb
   go_wp2
   go_loopw [9] (fun i wr => ∃ (j : Nat) (x0 x1 x2 x3 : Int), j ≤ 4 ∧ i = .int .i64 j ∧ Aside0 (counterfoilref15_Heard.Inv w wr (w.heap.size + 1) x0 x1 x2 x3) ∧ Aside0 (counterfoilref15_Heard.at_ k 2 body j x0 x1 x2 x3 = some R)) (fun i _ => 4 - (intOf i).toNat)
   case atStart => exact ⟨0, 0, 0, 0, 0, by omega, rfl, ⟨by simpa using BN.out, BR.out, HB1.out, by omega⟩, HA⟩
   case round =>
    obtain ⟨j, x0, x1, x2, x3, hj, rfl, HI, HA2⟩ := hrel
    clear HA
    have HG := Aside0.mk (show w.heap.size < w.heap.size + 1 by omega)
    generalize w.heap.size + 1 = gn at *
    obtain ⟨wo, rfl⟩ : ∃ wo : World, wo = wr := ⟨_, rfl⟩
    rcases (show j = 0 ∨ j = 1 ∨ j = 2 ∨ j = 3 ∨ j = 4 by omega) with rfl | rfl | rfl | rfl | rfl
    ·have hn := HA2.out
     simp only [counterfoilref15_Heard.at_, counterfoilref15_Heard.get] at hn
     clear HA2
     replace hn := Option.bind_eq_some_iff.1 hn
     obtain ⟨⟨v, e⟩, hv, hn⟩ := hn
     simp only at hn
     have HV : Aside0 (counterfoilref01_Get.f k (body.extract 0 8) = some (v, e)) := ⟨hv⟩
     clear hv
     have hc : wo.cell? ⟨gn, 0, none⟩ = some (.int .i64 x0) := (blk_cell HI.out.1 0).trans rfl
     have hf : wo.frozen? ⟨gn, 0, none⟩ = false := blk_frozen HI.out.1 0
     have hne1 : w.heap.size ≠ gn := by have := HG.out; omega
     have hne2 : gn ≠ w.heap.size := by have := HG.out; omega
     by_cases he : e = 0
     ·subst he
      rw [if_pos rfl] at hn
      have HA3 : Aside0 (counterfoilref15_Heard.at_ k 2 body 1 v x1 x2 x3 = some R) := ⟨hn⟩
      clear hn
      go_wp2_with fail
      (with_reducible refine (counterfoilref01_Get.calls k (body.extract 0 8) v 0 _ HV.out).mono ?_)
      rintro e w2 ⟨rfl, n, rfl⟩
      go_wp2
      go_roundw
      case rel => exact ⟨1, v, x1, x2, x3, by omega, by go_num, ⟨counterfoilref15_Heard.Inv_set HI.out 0 n rfl⟩, HA3⟩
      case measure => simp [intOf]
     ·rw [if_neg he] at hn
      obtain rfl := Option.some.inj hn
      have d1 : (e != 0) = true := bne_iff_ne.2 he
      have d2 : (e == 0) = false := beq_eq_false_iff_ne.2 he
      clear he hn
      have rc0 : wo.cell? ⟨w.heap.size, 0, none⟩ = some (.int .i64 0) := (blk_cell HI.out.2.1 0).trans rfl
      have rf0 : wo.frozen? ⟨w.heap.size, 0, none⟩ = false := blk_frozen HI.out.2.1 0
      have rc1 : wo.cell? ⟨w.heap.size, 1, none⟩ = some (.int .i64 0) := (blk_cell HI.out.2.1 1).trans rfl
      have rf1 : wo.frozen? ⟨w.heap.size, 1, none⟩ = false := blk_frozen HI.out.2.1 1
      have rc2 : wo.cell? ⟨w.heap.size, 2, none⟩ = some (.int .i64 0) := (blk_cell HI.out.2.1 2).trans rfl
      have rf2 : wo.frozen? ⟨w.heap.size, 2, none⟩ = false := blk_frozen HI.out.2.1 2
      have rc3 : wo.cell? ⟨w.heap.size, 3, none⟩ = some (.int .i64 0) := (blk_cell HI.out.2.1 3).trans rfl
      have rf3 : wo.frozen? ⟨w.heap.size, 3, none⟩ = false := blk_frozen HI.out.2.1 3
      go_wp2_with fail
      (with_reducible refine (counterfoilref01_Get.calls k (body.extract 0 8) v e _ HV.out).mono ?_)
      rintro e w2 ⟨rfl, n, rfl⟩
      have HR := Aside0.mk (blk_drewN HI.out.2.1 n)
      have HW := Aside0.mk (pw_below_drewN HI.out.2.2.1 n)
      go_wp2
      exact qpx100_
    ·have hn := HA2.out
     simp only [counterfoilref15_Heard.at_, counterfoilref15_Heard.get] at hn
     clear HA2
     replace hn := Option.bind_eq_some_iff.1 hn
     obtain ⟨⟨v, e⟩, hv, hn⟩ := hn
     simp only at hn
     have HV : Aside0 (counterfoilref01_Get.f k (body.extract 8 16) = some (v, e)) := ⟨hv⟩
     clear hv
     have hc : wo.cell? ⟨gn, 1, none⟩ = some (.int .i64 x1) := (blk_cell HI.out.1 1).trans rfl
     have hf : wo.frozen? ⟨gn, 1, none⟩ = false := blk_frozen HI.out.1 1
     have hne1 : w.heap.size ≠ gn := by have := HG.out; omega
     have hne2 : gn ≠ w.heap.size := by have := HG.out; omega
     by_cases he : e = 0
     ·subst he
      rw [if_pos rfl] at hn
      have HA3 : Aside0 (counterfoilref15_Heard.at_ k 2 body 2 x0 v x2 x3 = some R) := ⟨hn⟩
      clear hn
      go_wp2_with fail
      (with_reducible refine (counterfoilref01_Get.calls k (body.extract 8 16) v 0 _ HV.out).mono ?_)
      rintro e w2 ⟨rfl, n, rfl⟩
      go_wp2
      go_roundw
      case rel => exact ⟨2, x0, v, x2, x3, by omega, by go_num, ⟨counterfoilref15_Heard.Inv_set HI.out 1 n rfl⟩, HA3⟩
      case measure => simp [intOf]
     ·rw [if_neg he] at hn
      obtain rfl := Option.some.inj hn
      have d1 : (e != 0) = true := bne_iff_ne.2 he
      have d2 : (e == 0) = false := beq_eq_false_iff_ne.2 he
      clear he hn
      have rc0 : wo.cell? ⟨w.heap.size, 0, none⟩ = some (.int .i64 0) := (blk_cell HI.out.2.1 0).trans rfl
      have rf0 : wo.frozen? ⟨w.heap.size, 0, none⟩ = false := blk_frozen HI.out.2.1 0
      have rc1 : wo.cell? ⟨w.heap.size, 1, none⟩ = some (.int .i64 0) := (blk_cell HI.out.2.1 1).trans rfl
      have rf1 : wo.frozen? ⟨w.heap.size, 1, none⟩ = false := blk_frozen HI.out.2.1 1
      have rc2 : wo.cell? ⟨w.heap.size, 2, none⟩ = some (.int .i64 0) := (blk_cell HI.out.2.1 2).trans rfl
      have rf2 : wo.frozen? ⟨w.heap.size, 2, none⟩ = false := blk_frozen HI.out.2.1 2
      have rc3 : wo.cell? ⟨w.heap.size, 3, none⟩ = some (.int .i64 0) := (blk_cell HI.out.2.1 3).trans rfl
      have rf3 : wo.frozen? ⟨w.heap.size, 3, none⟩ = false := blk_frozen HI.out.2.1 3
      go_wp2_with fail
      (with_reducible refine (counterfoilref01_Get.calls k (body.extract 8 16) v e _ HV.out).mono ?_)
      rintro e w2 ⟨rfl, n, rfl⟩
      have HR := Aside0.mk (blk_drewN HI.out.2.1 n)
      have HW := Aside0.mk (pw_below_drewN HI.out.2.2.1 n)
      go_wp2
      exact qpx100_
    ·have hn := HA2.out
     simp only [counterfoilref15_Heard.at_, counterfoilref15_Heard.get] at hn
     clear HA2
     replace hn := Option.bind_eq_some_iff.1 hn
     obtain ⟨⟨v, e⟩, hv, hn⟩ := hn
     simp only at hn
     have HV : Aside0 (counterfoilref01_Get.f k (body.extract 16 24) = some (v, e)) := ⟨hv⟩
     clear hv
     have hc : wo.cell? ⟨gn, 2, none⟩ = some (.int .i64 x2) := (blk_cell HI.out.1 2).trans rfl
     have hf : wo.frozen? ⟨gn, 2, none⟩ = false := blk_frozen HI.out.1 2
     have hne1 : w.heap.size ≠ gn := by have := HG.out; omega
     have hne2 : gn ≠ w.heap.size := by have := HG.out; omega
     by_cases he : e = 0
     ·subst he
      rw [if_pos rfl] at hn
      have HA3 : Aside0 (counterfoilref15_Heard.at_ k 2 body 3 x0 x1 v x3 = some R) := ⟨hn⟩
      clear hn
      go_wp2_with fail
      (with_reducible refine (counterfoilref01_Get.calls k (body.extract 16 24) v 0 _ HV.out).mono ?_)
      rintro e w2 ⟨rfl, n, rfl⟩
      go_wp2
      go_roundw
      case rel => exact ⟨3, x0, x1, v, x3, by omega, by go_num, ⟨counterfoilref15_Heard.Inv_set HI.out 2 n rfl⟩, HA3⟩
      case measure => simp [intOf]
     ·rw [if_neg he] at hn
      obtain rfl := Option.some.inj hn
      have d1 : (e != 0) = true := bne_iff_ne.2 he
      have d2 : (e == 0) = false := beq_eq_false_iff_ne.2 he
      clear he hn
      have rc0 : wo.cell? ⟨w.heap.size, 0, none⟩ = some (.int .i64 0) := (blk_cell HI.out.2.1 0).trans rfl
      have rf0 : wo.frozen? ⟨w.heap.size, 0, none⟩ = false := blk_frozen HI.out.2.1 0
      have rc1 : wo.cell? ⟨w.heap.size, 1, none⟩ = some (.int .i64 0) := (blk_cell HI.out.2.1 1).trans rfl
      have rf1 : wo.frozen? ⟨w.heap.size, 1, none⟩ = false := blk_frozen HI.out.2.1 1
      have rc2 : wo.cell? ⟨w.heap.size, 2, none⟩ = some (.int .i64 0) := (blk_cell HI.out.2.1 2).trans rfl
      have rf2 : wo.frozen? ⟨w.heap.size, 2, none⟩ = false := blk_frozen HI.out.2.1 2
      have rc3 : wo.cell? ⟨w.heap.size, 3, none⟩ = some (.int .i64 0) := (blk_cell HI.out.2.1 3).trans rfl
      have rf3 : wo.frozen? ⟨w.heap.size, 3, none⟩ = false := blk_frozen HI.out.2.1 3
      go_wp2_with fail
      (with_reducible refine (counterfoilref01_Get.calls k (body.extract 16 24) v e _ HV.out).mono ?_)
      rintro e w2 ⟨rfl, n, rfl⟩
      have HR := Aside0.mk (blk_drewN HI.out.2.1 n)
      have HW := Aside0.mk (pw_below_drewN HI.out.2.2.1 n)
      go_wp2
      exact qpx100_
    ·have hn := HA2.out
     simp only [counterfoilref15_Heard.at_, counterfoilref15_Heard.get] at hn
     clear HA2
     replace hn := Option.bind_eq_some_iff.1 hn
     obtain ⟨⟨v, e⟩, hv, hn⟩ := hn
     simp only at hn
     have HV : Aside0 (counterfoilref01_Get.f k (body.extract 24 32) = some (v, e)) := ⟨hv⟩
     clear hv
     have hc : wo.cell? ⟨gn, 3, none⟩ = some (.int .i64 x3) := (blk_cell HI.out.1 3).trans rfl
     have hf : wo.frozen? ⟨gn, 3, none⟩ = false := blk_frozen HI.out.1 3
     have hne1 : w.heap.size ≠ gn := by have := HG.out; omega
     have hne2 : gn ≠ w.heap.size := by have := HG.out; omega
     by_cases he : e = 0
     ·subst he
      rw [if_pos rfl] at hn
      have HA3 : Aside0 (counterfoilref15_Heard.at_ k 2 body 4 x0 x1 x2 v = some R) := ⟨hn⟩
      clear hn
      go_wp2_with fail
      (with_reducible refine (counterfoilref01_Get.calls k (body.extract 24 32) v 0 _ HV.out).mono ?_)
      rintro e w2 ⟨rfl, n, rfl⟩
      go_wp2
      go_roundw
      case rel => exact ⟨4, x0, x1, x2, v, by omega, by go_num, ⟨counterfoilref15_Heard.Inv_set HI.out 3 n rfl⟩, HA3⟩
      case measure => simp [intOf]
     ·rw [if_neg he] at hn
      obtain rfl := Option.some.inj hn
      have d1 : (e != 0) = true := bne_iff_ne.2 he
      have d2 : (e == 0) = false := beq_eq_false_iff_ne.2 he
      clear he hn
      have rc0 : wo.cell? ⟨w.heap.size, 0, none⟩ = some (.int .i64 0) := (blk_cell HI.out.2.1 0).trans rfl
      have rf0 : wo.frozen? ⟨w.heap.size, 0, none⟩ = false := blk_frozen HI.out.2.1 0
      have rc1 : wo.cell? ⟨w.heap.size, 1, none⟩ = some (.int .i64 0) := (blk_cell HI.out.2.1 1).trans rfl
      have rf1 : wo.frozen? ⟨w.heap.size, 1, none⟩ = false := blk_frozen HI.out.2.1 1
      have rc2 : wo.cell? ⟨w.heap.size, 2, none⟩ = some (.int .i64 0) := (blk_cell HI.out.2.1 2).trans rfl
      have rf2 : wo.frozen? ⟨w.heap.size, 2, none⟩ = false := blk_frozen HI.out.2.1 2
      have rc3 : wo.cell? ⟨w.heap.size, 3, none⟩ = some (.int .i64 0) := (blk_cell HI.out.2.1 3).trans rfl
      have rf3 : wo.frozen? ⟨w.heap.size, 3, none⟩ = false := blk_frozen HI.out.2.1 3
      go_wp2_with fail
      (with_reducible refine (counterfoilref01_Get.calls k (body.extract 24 32) v e _ HV.out).mono ?_)
      rintro e w2 ⟨rfl, n, rfl⟩
      have HR := Aside0.mk (blk_drewN HI.out.2.1 n)
      have HW := Aside0.mk (pw_below_drewN HI.out.2.2.1 n)
      go_wp2
      exact qpx100_
    ·have HA3 : Aside0 (counterfoilref15_Heard.end_ 2 x0 x1 x2 x3 body = some R) := HA2
     clear HA2
     have HN := Aside0.mk HI.out.1
     have HR := Aside0.mk HI.out.2.1
     have HW := Aside0.mk HI.out.2.2.1
     have hne1 : w.heap.size ≠ gn := by have := HG.out; omega
     have hne2 : gn ≠ w.heap.size := by have := HG.out; omega
     have nc0 : wo.cell? ⟨gn, 0, none⟩ = some (.int .i64 x0) := (blk_cell HN.out 0).trans rfl
     have nc1 : wo.cell? ⟨gn, 1, none⟩ = some (.int .i64 x1) := (blk_cell HN.out 1).trans rfl
     have nc2 : wo.cell? ⟨gn, 2, none⟩ = some (.int .i64 x2) := (blk_cell HN.out 2).trans rfl
     have nc3 : wo.cell? ⟨gn, 3, none⟩ = some (.int .i64 x3) := (blk_cell HN.out 3).trans rfl
     by_cases q1 : x0 < 1
     ·skip
      have hR := HA3.out
      unfold counterfoilref15_Heard.end_ at hR
      rw [if_neg (by simp [counterfoilref15_Heard.ok]; omega)] at hR
      obtain rfl := Option.some.inj hR
      clear hR HA3
      have d1 : decide (x0 < 1) = true := decide_eq_true (by omega)
      have rc0 : wo.cell? ⟨w.heap.size, 0, none⟩ = some (.int .i64 0) := (blk_cell HR.out 0).trans rfl
      have rf0 : wo.frozen? ⟨w.heap.size, 0, none⟩ = false := blk_frozen HR.out 0
      have rc1 : wo.cell? ⟨w.heap.size, 1, none⟩ = some (.int .i64 0) := (blk_cell HR.out 1).trans rfl
      have rf1 : wo.frozen? ⟨w.heap.size, 1, none⟩ = false := blk_frozen HR.out 1
      have rc2 : wo.cell? ⟨w.heap.size, 2, none⟩ = some (.int .i64 0) := (blk_cell HR.out 2).trans rfl
      have rf2 : wo.frozen? ⟨w.heap.size, 2, none⟩ = false := blk_frozen HR.out 2
      have rc3 : wo.cell? ⟨w.heap.size, 3, none⟩ = some (.int .i64 0) := (blk_cell HR.out 3).trans rfl
      have rf3 : wo.frozen? ⟨w.heap.size, 3, none⟩ = false := blk_frozen HR.out 3
      go_wp2
      exact qpx100_
     by_cases q2 : 1099511627776 < x0
     ·skip
      have hR := HA3.out
      unfold counterfoilref15_Heard.end_ at hR
      rw [if_neg (by simp [counterfoilref15_Heard.ok]; omega)] at hR
      obtain rfl := Option.some.inj hR
      clear hR HA3
      have d1 : decide (x0 < 1) = false := decide_eq_false (by omega)
      have d2 : decide (1099511627776 < x0) = true := decide_eq_true (by omega)
      have rc0 : wo.cell? ⟨w.heap.size, 0, none⟩ = some (.int .i64 0) := (blk_cell HR.out 0).trans rfl
      have rf0 : wo.frozen? ⟨w.heap.size, 0, none⟩ = false := blk_frozen HR.out 0
      have rc1 : wo.cell? ⟨w.heap.size, 1, none⟩ = some (.int .i64 0) := (blk_cell HR.out 1).trans rfl
      have rf1 : wo.frozen? ⟨w.heap.size, 1, none⟩ = false := blk_frozen HR.out 1
      have rc2 : wo.cell? ⟨w.heap.size, 2, none⟩ = some (.int .i64 0) := (blk_cell HR.out 2).trans rfl
      have rf2 : wo.frozen? ⟨w.heap.size, 2, none⟩ = false := blk_frozen HR.out 2
      have rc3 : wo.cell? ⟨w.heap.size, 3, none⟩ = some (.int .i64 0) := (blk_cell HR.out 3).trans rfl
      have rf3 : wo.frozen? ⟨w.heap.size, 3, none⟩ = false := blk_frozen HR.out 3
      go_wp2
      exact qpx100_
     by_cases q3 : x2 = 0
     ·by_cases q4 : 32 < body.size
      ·skip
       have hR := HA3.out
       unfold counterfoilref15_Heard.end_ at hR
       rw [if_neg (by simp [counterfoilref15_Heard.ok]; omega)] at hR
       obtain rfl := Option.some.inj hR
       clear hR HA3
       have d1 : decide (x0 < 1) = false := decide_eq_false (by omega)
       have d2 : decide (1099511627776 < x0) = false := decide_eq_false (by omega)
       have d3 : (x2 != 0) = false := bne_eq_false_iff_eq.2 q3
       have d4 : (x2 == 0) = true := beq_iff_eq.2 q3
       have d5 : decide ((32 : Int) < (body.size : Int)) = true := decide_eq_true (by omega)
       have d6 : decide (32 < body.size) = true := decide_eq_true q4
       have rc0 : wo.cell? ⟨w.heap.size, 0, none⟩ = some (.int .i64 0) := (blk_cell HR.out 0).trans rfl
       have rf0 : wo.frozen? ⟨w.heap.size, 0, none⟩ = false := blk_frozen HR.out 0
       have rc1 : wo.cell? ⟨w.heap.size, 1, none⟩ = some (.int .i64 0) := (blk_cell HR.out 1).trans rfl
       have rf1 : wo.frozen? ⟨w.heap.size, 1, none⟩ = false := blk_frozen HR.out 1
       have rc2 : wo.cell? ⟨w.heap.size, 2, none⟩ = some (.int .i64 0) := (blk_cell HR.out 2).trans rfl
       have rf2 : wo.frozen? ⟨w.heap.size, 2, none⟩ = false := blk_frozen HR.out 2
       have rc3 : wo.cell? ⟨w.heap.size, 3, none⟩ = some (.int .i64 0) := (blk_cell HR.out 3).trans rfl
       have rf3 : wo.frozen? ⟨w.heap.size, 3, none⟩ = false := blk_frozen HR.out 3
       go_wp2
       exact qpx100_
      ·subst q3
       have hR := HA3.out
       unfold counterfoilref15_Heard.end_ at hR
       rw [if_pos (by simp [counterfoilref15_Heard.ok]; omega)] at hR
       obtain rfl := Option.some.inj hR
       clear hR HA3
       have d1 : decide (x0 < 1) = false := decide_eq_false (by omega)
       have d2 : decide (1099511627776 < x0) = false := decide_eq_false (by omega)
       have d5 : decide ((32 : Int) < (body.size : Int)) = false := decide_eq_false (by omega)
       have d6 : decide (32 < body.size) = false := decide_eq_false q4
       go_wp2
       have HX := Aside0.mk (blk_drew HN.out)
       replace HR := Aside0.mk (blk_drew HR.out)
       replace HW := Aside0.mk (below_drew1 HW.out)
       refine start_ (n := 7) (S := fun w' => w'.cell? ⟨gn, 0, none⟩ = some (.int .i64 x0) ∧ w'.cell? ⟨gn, 1, none⟩ = some (.int .i64 x1) ∧ w'.cell? ⟨gn, 2, none⟩ = some (.int .i64 0) ∧ w'.cell? ⟨gn, 3, none⟩ = some (.int .i64 x3)) (ds := []) #[F_,F_,F_,F_,F_,F_,F_] (by kernel_rfl) rfl rfl ⟨(blk_cell HX.out 0).trans rfl, (blk_cell HX.out 1).trans rfl, (blk_cell HX.out 2).trans rfl, (blk_cell HX.out 3).trans rfl⟩ (fun hHeld => ?_)
       generalize World.drew wo = V at HX HR HW hHeld ⊢
       refine pure_ (i := 0) (N := some 83) (v := ?_) (a' := ?_) #[T_,F_,F_,F_,F_,F_,F_] rfl rfl (by kernel_rfl) (fun _ _ _ h => h) (Or.inl ⟨by rfl, ?_⟩) ?_ ?_
       rotate_left
       ·intro w'
        go_simp
        with_reducible rfl
       rotate_left
       ·exact put_
       refine pure_ (i := 2) (N := some 85) (v := ?_) (a' := ?_) #[T_,F_,T_,F_,F_,F_,F_] rfl rfl (by kernel_rfl) (fun _ _ _ h => h) (Or.inl ⟨by rfl, ?_⟩) ?_ ?_
       rotate_left
       ·intro w'
        go_simp
        with_reducible rfl
       rotate_left
       ·exact put_
       refine pure_ (i := 3) (N := some 86) (v := ?_) (a' := ?_) #[T_,F_,T_,T_,F_,F_,F_] rfl rfl (by kernel_rfl) (fun _ _ _ h => h) (Or.inl ⟨by rfl, ?_⟩) ?_ ?_
       rotate_left
       ·intro w'
        go_simp
        with_reducible rfl
       rotate_left
       ·exact put_
       refine pure_ (i := 4) (N := some 2) (v := ?_) (a' := ?_) #[T_,F_,T_,T_,T_,F_,F_] rfl rfl (by kernel_rfl) (fun _ _ _ h => h) (Or.inl ⟨by rfl, ?_⟩) ?_ ?_
       rotate_left
       ·intro w'
        go_simp
        with_reducible rfl
       rotate_left
       ·exact put_
       refine take_ (i := 1) (N := some 84) (v := ?_) (a' := ?_) #[T_,T_,T_,T_,T_,F_,F_] rfl rfl (by kernel_rfl) (fun _ _ _ h => h) (Or.inl ⟨by rfl, ?_⟩) hHeld ?_ ?_
       rotate_left
       ·rintro w' ⟨s0, s1, s2, s3⟩
        go_simp
        with_reducible rfl
       rotate_left
       ·exact put_
       refine one_ (i := 5) (N := none) #[T_,T_,T_,T_,T_,T_,F_] rfl rfl (by kernel_rfl) (by decide) (fun K hK => ?_)
       have yc0 : V.cell? ⟨w.heap.size, 0, none⟩ = some (.int .i64 0) := (blk_cell HR.out 0).trans rfl
       have yf0 : V.frozen? ⟨w.heap.size, 0, none⟩ = false := blk_frozen HR.out 0
       have yc1 : V.cell? ⟨w.heap.size, 1, none⟩ = some (.int .i64 0) := (blk_cell HR.out 1).trans rfl
       have yf1 : V.frozen? ⟨w.heap.size, 1, none⟩ = false := blk_frozen HR.out 1
       have yc2 : V.cell? ⟨w.heap.size, 2, none⟩ = some (.int .i64 0) := (blk_cell HR.out 2).trans rfl
       have yf2 : V.frozen? ⟨w.heap.size, 2, none⟩ = false := blk_frozen HR.out 2
       have yc3 : V.cell? ⟨w.heap.size, 3, none⟩ = some (.int .i64 0) := (blk_cell HR.out 3).trans rfl
       have yf3 : V.frozen? ⟨w.heap.size, 3, none⟩ = false := blk_frozen HR.out 3
       refine skip_ (w1 := ?_) (by rfl) rfl ?_ ?_
       rotate_left
       ·go_simp
        rfl
       refine hK.out _ _ ⟨far4_ hne2 (hHeld.1), far4_ hne2 (hHeld.2.1), far4_ hne2 (hHeld.2.2.1), far4_ hne2 (hHeld.2.2.2)⟩ (fun hHeld => ?_)
       clear hK K
       refine pure_ (i := 6) (N := some 4) (v := ?_) (a' := ?_) #[T_,T_,T_,T_,T_,T_,T_] rfl rfl (by kernel_rfl) (fun _ _ _ h => h) (Or.inl ⟨by rfl, ?_⟩) ?_ ?_
       rotate_left
       ·intro w'
        go_simp
        with_reducible rfl
       rotate_left
       ·exact put_
       refine done_ (by kernel_rfl) ?_
       go_wp2
       exact bodyPost_ret (results_list (rs := [.tmp 2, .cell 3 68, .tmp 4]) rfl (by simp) (.tmp (.cell w.heap.size 68 #[.int .i64 x0, .int .i64 x1, .int .i64 0, .int .i64 x3] (0, 0) _ rfl (blk_put (blk_put (blk_put (blk_put (HR.out) 0 _ rfl) 1 _ rfl) 2 _ rfl) 3 _ rfl) Try.underlying68 rfl (by kernel_rfl) (.tmp .nil)))) rfl ⟨rfl, below_set (below_set (below_set (below_set (HW.out) (Nat.le_refl _)) (Nat.le_refl _)) (Nat.le_refl _)) (Nat.le_refl _)⟩
     ·skip
      have hR := HA3.out
      unfold counterfoilref15_Heard.end_ at hR
      rw [if_neg (by simp [counterfoilref15_Heard.ok]; omega)] at hR
      obtain rfl := Option.some.inj hR
      clear hR HA3
      have d1 : decide (x0 < 1) = false := decide_eq_false (by omega)
      have d2 : decide (1099511627776 < x0) = false := decide_eq_false (by omega)
      have d3 : (x2 != 0) = true := bne_iff_ne.2 q3
      have d4 : (x2 == 0) = false := beq_eq_false_iff_ne.2 q3
      have rc0 : wo.cell? ⟨w.heap.size, 0, none⟩ = some (.int .i64 0) := (blk_cell HR.out 0).trans rfl
      have rf0 : wo.frozen? ⟨w.heap.size, 0, none⟩ = false := blk_frozen HR.out 0
      have rc1 : wo.cell? ⟨w.heap.size, 1, none⟩ = some (.int .i64 0) := (blk_cell HR.out 1).trans rfl
      have rf1 : wo.frozen? ⟨w.heap.size, 1, none⟩ = false := blk_frozen HR.out 1
      have rc2 : wo.cell? ⟨w.heap.size, 2, none⟩ = some (.int .i64 0) := (blk_cell HR.out 2).trans rfl
      have rf2 : wo.frozen? ⟨w.heap.size, 2, none⟩ = false := blk_frozen HR.out 2
      have rc3 : wo.cell? ⟨w.heap.size, 3, none⟩ = some (.int .i64 0) := (blk_cell HR.out 3).trans rfl
      have rf3 : wo.frozen? ⟨w.heap.size, 3, none⟩ = false := blk_frozen HR.out 3
      go_wp2
      exact qpx100_
 ·rw [if_neg hc] at h
  obtain rfl := Option.some.inj h
  clear h
  by_cases he : e = 0
  ·subst he
   by_cases h1 : kind = 1
   ·subst h1
    by_cases h3 : body.size < 32
    ·skip
     have b1 : decide ((body.size : Int) < 32) = true := decide_eq_true (by omega)
     have b3 : decide (body.size < 32) = true := decide_eq_true h3
     clear hc
     go_enter Try.func30, Try.ntmps30
     go_wp2_with fail
     (with_reducible refine (counterfoilref03_Open.calls k a0 _ body _ _ HO.out).mono ?_)
     rintro e w1 ⟨rfl, hb⟩
     have HB1 := Aside0.mk (below_step (below_alloc (below_alloc HB.out _) _) hb)
     have BR := Aside0.mk (blk_below (blk_alloc (blk_new w _) _) hb)
     have BN := Aside0.mk (blk_below (blk_new (w.alloc _) _) hb)
     clear hb
     have hne1 : w.heap.size ≠ w.heap.size + 1 := by omega
     have hne2 : w.heap.size + 1 ≠ w.heap.size := by omega
     go_wp2
     have HR := BR
     have HW := HB1
     have HN : Aside0 (w1.heap[w.heap.size + 1]? = some (.cells #[.int .i64 0, .int .i64 0, .int .i64 0, .int .i64 0] 68 (0, 0))) := ⟨by simpa using BN.out⟩
     clear BR BN HB1
     have HX := Aside0.mk (blk_drew HN.out)
     replace HR := Aside0.mk (blk_drew HR.out)
     replace HW := Aside0.mk (below_drew1 HW.out)
     refine start_ (n := 4) (S := fun w' => w'.cell? ⟨(w.heap.size + 1), 0, none⟩ = some (.int .i64 0) ∧ w'.cell? ⟨(w.heap.size + 1), 1, none⟩ = some (.int .i64 0) ∧ w'.cell? ⟨(w.heap.size + 1), 2, none⟩ = some (.int .i64 0) ∧ w'.cell? ⟨(w.heap.size + 1), 3, none⟩ = some (.int .i64 0)) (ds := []) #[F_,F_,F_,F_] (by kernel_rfl) rfl rfl ⟨(blk_cell HX.out 0).trans rfl, (blk_cell HX.out 1).trans rfl, (blk_cell HX.out 2).trans rfl, (blk_cell HX.out 3).trans rfl⟩ (fun hHeld => ?_)
     generalize World.drew w1 = V at HX HR HW hHeld ⊢
     refine pure_ (i := 1) (N := some 2) (v := ?_) (a' := ?_) #[F_,T_,F_,F_] rfl rfl (by kernel_rfl) (fun _ _ _ h => h) (Or.inl ⟨by rfl, ?_⟩) ?_ ?_
     rotate_left
     ·intro w'
      go_simp
      with_reducible rfl
     rotate_left
     ·exact put_
     refine take_ (i := 0) (N := some 38) (v := ?_) (a' := ?_) #[T_,T_,F_,F_] rfl rfl (by kernel_rfl) (fun _ _ _ h => h) (Or.inl ⟨by rfl, ?_⟩) hHeld ?_ ?_
     rotate_left
     ·rintro w' ⟨s0, s1, s2, s3⟩
      go_simp
      with_reducible rfl
     rotate_left
     ·exact put_
     refine one_ (i := 2) (N := none) #[T_,T_,T_,F_] rfl rfl (by kernel_rfl) (by decide) (fun K hK => ?_)
     have yc0 : V.cell? ⟨w.heap.size, 0, none⟩ = some (.int .i64 0) := (blk_cell HR.out 0).trans rfl
     have yf0 : V.frozen? ⟨w.heap.size, 0, none⟩ = false := blk_frozen HR.out 0
     have yc1 : V.cell? ⟨w.heap.size, 1, none⟩ = some (.int .i64 0) := (blk_cell HR.out 1).trans rfl
     have yf1 : V.frozen? ⟨w.heap.size, 1, none⟩ = false := blk_frozen HR.out 1
     have yc2 : V.cell? ⟨w.heap.size, 2, none⟩ = some (.int .i64 0) := (blk_cell HR.out 2).trans rfl
     have yf2 : V.frozen? ⟨w.heap.size, 2, none⟩ = false := blk_frozen HR.out 2
     have yc3 : V.cell? ⟨w.heap.size, 3, none⟩ = some (.int .i64 0) := (blk_cell HR.out 3).trans rfl
     have yf3 : V.frozen? ⟨w.heap.size, 3, none⟩ = false := blk_frozen HR.out 3
     refine skip_ (w1 := ?_) (by rfl) rfl ?_ ?_
     rotate_left
     ·go_simp
      rfl
     refine hK.out _ _ ⟨far4_ hne2 (hHeld.1), far4_ hne2 (hHeld.2.1), far4_ hne2 (hHeld.2.2.1), far4_ hne2 (hHeld.2.2.2)⟩ (fun hHeld => ?_)
     clear hK K
     refine pure_ (i := 3) (N := some 4) (v := ?_) (a' := ?_) #[T_,T_,T_,T_] rfl rfl (by kernel_rfl) (fun _ _ _ h => h) (Or.inl ⟨by rfl, ?_⟩) ?_ ?_
     rotate_left
     ·intro w'
      go_simp
      with_reducible rfl
     rotate_left
     ·exact put_
     refine done_ (by kernel_rfl) ?_
     go_wp2
     exact qpx100_
    ·have h4 : 544 < body.size := by omega
     have b1 : decide ((body.size : Int) < 32) = false := decide_eq_false (by omega)
     have b3 : decide (body.size < 32) = false := decide_eq_false h3
     have b2 : decide (544 < (body.size : Int)) = true := decide_eq_true (by omega)
     have b4 : decide (544 < body.size) = true := decide_eq_true h4
     clear hc
     go_enter Try.func30, Try.ntmps30
     go_wp2_with fail
     (with_reducible refine (counterfoilref03_Open.calls k a0 _ body _ _ HO.out).mono ?_)
     rintro e w1 ⟨rfl, hb⟩
     have HB1 := Aside0.mk (below_step (below_alloc (below_alloc HB.out _) _) hb)
     have BR := Aside0.mk (blk_below (blk_alloc (blk_new w _) _) hb)
     have BN := Aside0.mk (blk_below (blk_new (w.alloc _) _) hb)
     clear hb
     have hne1 : w.heap.size ≠ w.heap.size + 1 := by omega
     have hne2 : w.heap.size + 1 ≠ w.heap.size := by omega
     go_wp2
     have HR := BR
     have HW := HB1
     have HN : Aside0 (w1.heap[w.heap.size + 1]? = some (.cells #[.int .i64 0, .int .i64 0, .int .i64 0, .int .i64 0] 68 (0, 0))) := ⟨by simpa using BN.out⟩
     clear BR BN HB1
     have HX := Aside0.mk (blk_drew HN.out)
     replace HR := Aside0.mk (blk_drew HR.out)
     replace HW := Aside0.mk (below_drew1 HW.out)
     refine start_ (n := 4) (S := fun w' => w'.cell? ⟨(w.heap.size + 1), 0, none⟩ = some (.int .i64 0) ∧ w'.cell? ⟨(w.heap.size + 1), 1, none⟩ = some (.int .i64 0) ∧ w'.cell? ⟨(w.heap.size + 1), 2, none⟩ = some (.int .i64 0) ∧ w'.cell? ⟨(w.heap.size + 1), 3, none⟩ = some (.int .i64 0)) (ds := []) #[F_,F_,F_,F_] (by kernel_rfl) rfl rfl ⟨(blk_cell HX.out 0).trans rfl, (blk_cell HX.out 1).trans rfl, (blk_cell HX.out 2).trans rfl, (blk_cell HX.out 3).trans rfl⟩ (fun hHeld => ?_)
     generalize World.drew w1 = V at HX HR HW hHeld ⊢
     refine pure_ (i := 1) (N := some 2) (v := ?_) (a' := ?_) #[F_,T_,F_,F_] rfl rfl (by kernel_rfl) (fun _ _ _ h => h) (Or.inl ⟨by rfl, ?_⟩) ?_ ?_
     rotate_left
     ·intro w'
      go_simp
      with_reducible rfl
     rotate_left
     ·exact put_
     refine take_ (i := 0) (N := some 38) (v := ?_) (a' := ?_) #[T_,T_,F_,F_] rfl rfl (by kernel_rfl) (fun _ _ _ h => h) (Or.inl ⟨by rfl, ?_⟩) hHeld ?_ ?_
     rotate_left
     ·rintro w' ⟨s0, s1, s2, s3⟩
      go_simp
      with_reducible rfl
     rotate_left
     ·exact put_
     refine one_ (i := 2) (N := none) #[T_,T_,T_,F_] rfl rfl (by kernel_rfl) (by decide) (fun K hK => ?_)
     have yc0 : V.cell? ⟨w.heap.size, 0, none⟩ = some (.int .i64 0) := (blk_cell HR.out 0).trans rfl
     have yf0 : V.frozen? ⟨w.heap.size, 0, none⟩ = false := blk_frozen HR.out 0
     have yc1 : V.cell? ⟨w.heap.size, 1, none⟩ = some (.int .i64 0) := (blk_cell HR.out 1).trans rfl
     have yf1 : V.frozen? ⟨w.heap.size, 1, none⟩ = false := blk_frozen HR.out 1
     have yc2 : V.cell? ⟨w.heap.size, 2, none⟩ = some (.int .i64 0) := (blk_cell HR.out 2).trans rfl
     have yf2 : V.frozen? ⟨w.heap.size, 2, none⟩ = false := blk_frozen HR.out 2
     have yc3 : V.cell? ⟨w.heap.size, 3, none⟩ = some (.int .i64 0) := (blk_cell HR.out 3).trans rfl
     have yf3 : V.frozen? ⟨w.heap.size, 3, none⟩ = false := blk_frozen HR.out 3
     refine skip_ (w1 := ?_) (by rfl) rfl ?_ ?_
     rotate_left
     ·go_simp
      rfl
     refine hK.out _ _ ⟨far4_ hne2 (hHeld.1), far4_ hne2 (hHeld.2.1), far4_ hne2 (hHeld.2.2.1), far4_ hne2 (hHeld.2.2.2)⟩ (fun hHeld => ?_)
     clear hK K
     refine pure_ (i := 3) (N := some 4) (v := ?_) (a' := ?_) #[T_,T_,T_,T_] rfl rfl (by kernel_rfl) (fun _ _ _ h => h) (Or.inl ⟨by rfl, ?_⟩) ?_ ?_
     rotate_left
     ·intro w'
      go_simp
      with_reducible rfl
     rotate_left
     ·exact put_
     refine done_ (by kernel_rfl) ?_
     go_wp2
     exact qpx100_
   by_cases h2 : kind = 2
   ·subst h2
    by_cases h3 : body.size < 32
    ·skip
     have b1 : decide ((body.size : Int) < 32) = true := decide_eq_true (by omega)
     have b3 : decide (body.size < 32) = true := decide_eq_true h3
     clear hc h1
     go_enter Try.func30, Try.ntmps30
     go_wp2_with fail
     (with_reducible refine (counterfoilref03_Open.calls k a0 _ body _ _ HO.out).mono ?_)
     rintro e w1 ⟨rfl, hb⟩
     have HB1 := Aside0.mk (below_step (below_alloc (below_alloc HB.out _) _) hb)
     have BR := Aside0.mk (blk_below (blk_alloc (blk_new w _) _) hb)
     have BN := Aside0.mk (blk_below (blk_new (w.alloc _) _) hb)
     clear hb
     have hne1 : w.heap.size ≠ w.heap.size + 1 := by omega
     have hne2 : w.heap.size + 1 ≠ w.heap.size := by omega
     go_wp2
     have HR := BR
     have HW := HB1
     have HN : Aside0 (w1.heap[w.heap.size + 1]? = some (.cells #[.int .i64 0, .int .i64 0, .int .i64 0, .int .i64 0] 68 (0, 0))) := ⟨by simpa using BN.out⟩
     clear BR BN HB1
     have HX := Aside0.mk (blk_drew HN.out)
     replace HR := Aside0.mk (blk_drew HR.out)
     replace HW := Aside0.mk (below_drew1 HW.out)
     refine start_ (n := 4) (S := fun w' => w'.cell? ⟨(w.heap.size + 1), 0, none⟩ = some (.int .i64 0) ∧ w'.cell? ⟨(w.heap.size + 1), 1, none⟩ = some (.int .i64 0) ∧ w'.cell? ⟨(w.heap.size + 1), 2, none⟩ = some (.int .i64 0) ∧ w'.cell? ⟨(w.heap.size + 1), 3, none⟩ = some (.int .i64 0)) (ds := []) #[F_,F_,F_,F_] (by kernel_rfl) rfl rfl ⟨(blk_cell HX.out 0).trans rfl, (blk_cell HX.out 1).trans rfl, (blk_cell HX.out 2).trans rfl, (blk_cell HX.out 3).trans rfl⟩ (fun hHeld => ?_)
     generalize World.drew w1 = V at HX HR HW hHeld ⊢
     refine pure_ (i := 1) (N := some 2) (v := ?_) (a' := ?_) #[F_,T_,F_,F_] rfl rfl (by kernel_rfl) (fun _ _ _ h => h) (Or.inl ⟨by rfl, ?_⟩) ?_ ?_
     rotate_left
     ·intro w'
      go_simp
      with_reducible rfl
     rotate_left
     ·exact put_
     refine take_ (i := 0) (N := some 38) (v := ?_) (a' := ?_) #[T_,T_,F_,F_] rfl rfl (by kernel_rfl) (fun _ _ _ h => h) (Or.inl ⟨by rfl, ?_⟩) hHeld ?_ ?_
     rotate_left
     ·rintro w' ⟨s0, s1, s2, s3⟩
      go_simp
      with_reducible rfl
     rotate_left
     ·exact put_
     refine one_ (i := 2) (N := none) #[T_,T_,T_,F_] rfl rfl (by kernel_rfl) (by decide) (fun K hK => ?_)
     have yc0 : V.cell? ⟨w.heap.size, 0, none⟩ = some (.int .i64 0) := (blk_cell HR.out 0).trans rfl
     have yf0 : V.frozen? ⟨w.heap.size, 0, none⟩ = false := blk_frozen HR.out 0
     have yc1 : V.cell? ⟨w.heap.size, 1, none⟩ = some (.int .i64 0) := (blk_cell HR.out 1).trans rfl
     have yf1 : V.frozen? ⟨w.heap.size, 1, none⟩ = false := blk_frozen HR.out 1
     have yc2 : V.cell? ⟨w.heap.size, 2, none⟩ = some (.int .i64 0) := (blk_cell HR.out 2).trans rfl
     have yf2 : V.frozen? ⟨w.heap.size, 2, none⟩ = false := blk_frozen HR.out 2
     have yc3 : V.cell? ⟨w.heap.size, 3, none⟩ = some (.int .i64 0) := (blk_cell HR.out 3).trans rfl
     have yf3 : V.frozen? ⟨w.heap.size, 3, none⟩ = false := blk_frozen HR.out 3
     refine skip_ (w1 := ?_) (by rfl) rfl ?_ ?_
     rotate_left
     ·go_simp
      rfl
     refine hK.out _ _ ⟨far4_ hne2 (hHeld.1), far4_ hne2 (hHeld.2.1), far4_ hne2 (hHeld.2.2.1), far4_ hne2 (hHeld.2.2.2)⟩ (fun hHeld => ?_)
     clear hK K
     refine pure_ (i := 3) (N := some 4) (v := ?_) (a' := ?_) #[T_,T_,T_,T_] rfl rfl (by kernel_rfl) (fun _ _ _ h => h) (Or.inl ⟨by rfl, ?_⟩) ?_ ?_
     rotate_left
     ·intro w'
      go_simp
      with_reducible rfl
     rotate_left
     ·exact put_
     refine done_ (by kernel_rfl) ?_
     go_wp2
     exact qpx100_
    ·have h4 : 544 < body.size := by omega
     have b1 : decide ((body.size : Int) < 32) = false := decide_eq_false (by omega)
     have b3 : decide (body.size < 32) = false := decide_eq_false h3
     have b2 : decide (544 < (body.size : Int)) = true := decide_eq_true (by omega)
     have b4 : decide (544 < body.size) = true := decide_eq_true h4
     clear hc h1
     go_enter Try.func30, Try.ntmps30
     go_wp2_with fail
     (with_reducible refine (counterfoilref03_Open.calls k a0 _ body _ _ HO.out).mono ?_)
     rintro e w1 ⟨rfl, hb⟩
     have HB1 := Aside0.mk (below_step (below_alloc (below_alloc HB.out _) _) hb)
     have BR := Aside0.mk (blk_below (blk_alloc (blk_new w _) _) hb)
     have BN := Aside0.mk (blk_below (blk_new (w.alloc _) _) hb)
     clear hb
     have hne1 : w.heap.size ≠ w.heap.size + 1 := by omega
     have hne2 : w.heap.size + 1 ≠ w.heap.size := by omega
     go_wp2
     have HR := BR
     have HW := HB1
     have HN : Aside0 (w1.heap[w.heap.size + 1]? = some (.cells #[.int .i64 0, .int .i64 0, .int .i64 0, .int .i64 0] 68 (0, 0))) := ⟨by simpa using BN.out⟩
     clear BR BN HB1
     have HX := Aside0.mk (blk_drew HN.out)
     replace HR := Aside0.mk (blk_drew HR.out)
     replace HW := Aside0.mk (below_drew1 HW.out)
     refine start_ (n := 4) (S := fun w' => w'.cell? ⟨(w.heap.size + 1), 0, none⟩ = some (.int .i64 0) ∧ w'.cell? ⟨(w.heap.size + 1), 1, none⟩ = some (.int .i64 0) ∧ w'.cell? ⟨(w.heap.size + 1), 2, none⟩ = some (.int .i64 0) ∧ w'.cell? ⟨(w.heap.size + 1), 3, none⟩ = some (.int .i64 0)) (ds := []) #[F_,F_,F_,F_] (by kernel_rfl) rfl rfl ⟨(blk_cell HX.out 0).trans rfl, (blk_cell HX.out 1).trans rfl, (blk_cell HX.out 2).trans rfl, (blk_cell HX.out 3).trans rfl⟩ (fun hHeld => ?_)
     generalize World.drew w1 = V at HX HR HW hHeld ⊢
     refine pure_ (i := 1) (N := some 2) (v := ?_) (a' := ?_) #[F_,T_,F_,F_] rfl rfl (by kernel_rfl) (fun _ _ _ h => h) (Or.inl ⟨by rfl, ?_⟩) ?_ ?_
     rotate_left
     ·intro w'
      go_simp
      with_reducible rfl
     rotate_left
     ·exact put_
     refine take_ (i := 0) (N := some 38) (v := ?_) (a' := ?_) #[T_,T_,F_,F_] rfl rfl (by kernel_rfl) (fun _ _ _ h => h) (Or.inl ⟨by rfl, ?_⟩) hHeld ?_ ?_
     rotate_left
     ·rintro w' ⟨s0, s1, s2, s3⟩
      go_simp
      with_reducible rfl
     rotate_left
     ·exact put_
     refine one_ (i := 2) (N := none) #[T_,T_,T_,F_] rfl rfl (by kernel_rfl) (by decide) (fun K hK => ?_)
     have yc0 : V.cell? ⟨w.heap.size, 0, none⟩ = some (.int .i64 0) := (blk_cell HR.out 0).trans rfl
     have yf0 : V.frozen? ⟨w.heap.size, 0, none⟩ = false := blk_frozen HR.out 0
     have yc1 : V.cell? ⟨w.heap.size, 1, none⟩ = some (.int .i64 0) := (blk_cell HR.out 1).trans rfl
     have yf1 : V.frozen? ⟨w.heap.size, 1, none⟩ = false := blk_frozen HR.out 1
     have yc2 : V.cell? ⟨w.heap.size, 2, none⟩ = some (.int .i64 0) := (blk_cell HR.out 2).trans rfl
     have yf2 : V.frozen? ⟨w.heap.size, 2, none⟩ = false := blk_frozen HR.out 2
     have yc3 : V.cell? ⟨w.heap.size, 3, none⟩ = some (.int .i64 0) := (blk_cell HR.out 3).trans rfl
     have yf3 : V.frozen? ⟨w.heap.size, 3, none⟩ = false := blk_frozen HR.out 3
     refine skip_ (w1 := ?_) (by rfl) rfl ?_ ?_
     rotate_left
     ·go_simp
      rfl
     refine hK.out _ _ ⟨far4_ hne2 (hHeld.1), far4_ hne2 (hHeld.2.1), far4_ hne2 (hHeld.2.2.1), far4_ hne2 (hHeld.2.2.2)⟩ (fun hHeld => ?_)
     clear hK K
     refine pure_ (i := 3) (N := some 4) (v := ?_) (a' := ?_) #[T_,T_,T_,T_] rfl rfl (by kernel_rfl) (fun _ _ _ h => h) (Or.inl ⟨by rfl, ?_⟩) ?_ ?_
     rotate_left
     ·intro w'
      go_simp
      with_reducible rfl
     rotate_left
     ·exact put_
     refine done_ (by kernel_rfl) ?_
     go_wp2
     exact qpx100_
   have b1 : (kind != 1) = true := bne_iff_ne.2 h1
   have b2 : (kind != 2) = true := bne_iff_ne.2 h2
   have b3 : (kind == 1) = false := beq_eq_false_iff_ne.2 h1
   have b4 : (kind == 2) = false := beq_eq_false_iff_ne.2 h2
   clear hc h1 h2
   go_enter Try.func30, Try.ntmps30
   go_wp2_with fail
   (with_reducible refine (counterfoilref03_Open.calls k a0 _ body _ _ HO.out).mono ?_)
   rintro e w1 ⟨rfl, hb⟩
   have HB1 := Aside0.mk (below_step (below_alloc (below_alloc HB.out _) _) hb)
   have BR := Aside0.mk (blk_below (blk_alloc (blk_new w _) _) hb)
   have BN := Aside0.mk (blk_below (blk_new (w.alloc _) _) hb)
   clear hb
   have hne1 : w.heap.size ≠ w.heap.size + 1 := by omega
   have hne2 : w.heap.size + 1 ≠ w.heap.size := by omega
   go_wp2
   have HR := BR
   have HW := HB1
   have HN : Aside0 (w1.heap[w.heap.size + 1]? = some (.cells #[.int .i64 0, .int .i64 0, .int .i64 0, .int .i64 0] 68 (0, 0))) := ⟨by simpa using BN.out⟩
   clear BR BN HB1
   have HX := Aside0.mk (blk_drew HN.out)
   replace HR := Aside0.mk (blk_drew HR.out)
   replace HW := Aside0.mk (below_drew1 HW.out)
   refine start_ (n := 4) (S := fun w' => w'.cell? ⟨(w.heap.size + 1), 0, none⟩ = some (.int .i64 0) ∧ w'.cell? ⟨(w.heap.size + 1), 1, none⟩ = some (.int .i64 0) ∧ w'.cell? ⟨(w.heap.size + 1), 2, none⟩ = some (.int .i64 0) ∧ w'.cell? ⟨(w.heap.size + 1), 3, none⟩ = some (.int .i64 0)) (ds := []) #[F_,F_,F_,F_] (by kernel_rfl) rfl rfl ⟨(blk_cell HX.out 0).trans rfl, (blk_cell HX.out 1).trans rfl, (blk_cell HX.out 2).trans rfl, (blk_cell HX.out 3).trans rfl⟩ (fun hHeld => ?_)
   generalize World.drew w1 = V at HX HR HW hHeld ⊢
   refine pure_ (i := 1) (N := some 2) (v := ?_) (a' := ?_) #[F_,T_,F_,F_] rfl rfl (by kernel_rfl) (fun _ _ _ h => h) (Or.inl ⟨by rfl, ?_⟩) ?_ ?_
   rotate_left
   ·intro w'
    go_simp
    with_reducible rfl
   rotate_left
   ·exact put_
   refine take_ (i := 0) (N := some 38) (v := ?_) (a' := ?_) #[T_,T_,F_,F_] rfl rfl (by kernel_rfl) (fun _ _ _ h => h) (Or.inl ⟨by rfl, ?_⟩) hHeld ?_ ?_
   rotate_left
   ·rintro w' ⟨s0, s1, s2, s3⟩
    go_simp
    with_reducible rfl
   rotate_left
   ·exact put_
   refine one_ (i := 2) (N := none) #[T_,T_,T_,F_] rfl rfl (by kernel_rfl) (by decide) (fun K hK => ?_)
   have yc0 : V.cell? ⟨w.heap.size, 0, none⟩ = some (.int .i64 0) := (blk_cell HR.out 0).trans rfl
   have yf0 : V.frozen? ⟨w.heap.size, 0, none⟩ = false := blk_frozen HR.out 0
   have yc1 : V.cell? ⟨w.heap.size, 1, none⟩ = some (.int .i64 0) := (blk_cell HR.out 1).trans rfl
   have yf1 : V.frozen? ⟨w.heap.size, 1, none⟩ = false := blk_frozen HR.out 1
   have yc2 : V.cell? ⟨w.heap.size, 2, none⟩ = some (.int .i64 0) := (blk_cell HR.out 2).trans rfl
   have yf2 : V.frozen? ⟨w.heap.size, 2, none⟩ = false := blk_frozen HR.out 2
   have yc3 : V.cell? ⟨w.heap.size, 3, none⟩ = some (.int .i64 0) := (blk_cell HR.out 3).trans rfl
   have yf3 : V.frozen? ⟨w.heap.size, 3, none⟩ = false := blk_frozen HR.out 3
   refine skip_ (w1 := ?_) (by rfl) rfl ?_ ?_
   rotate_left
   ·go_simp
    rfl
   refine hK.out _ _ ⟨far4_ hne2 (hHeld.1), far4_ hne2 (hHeld.2.1), far4_ hne2 (hHeld.2.2.1), far4_ hne2 (hHeld.2.2.2)⟩ (fun hHeld => ?_)
   clear hK K
   refine pure_ (i := 3) (N := some 4) (v := ?_) (a' := ?_) #[T_,T_,T_,T_] rfl rfl (by kernel_rfl) (fun _ _ _ h => h) (Or.inl ⟨by rfl, ?_⟩) ?_ ?_
   rotate_left
   ·intro w'
    go_simp
    with_reducible rfl
   rotate_left
   ·exact put_
   refine done_ (by kernel_rfl) ?_
   go_wp2
   exact qpx100_
  have b1 : (e != 0) = true := bne_iff_ne.2 he
  have b2 : (e == 0) = false := beq_eq_false_iff_ne.2 he
  clear hc he
  go_enter Try.func30, Try.ntmps30
  go_wp2_with fail
  (with_reducible refine (counterfoilref03_Open.calls k a0 _ body _ _ HO.out).mono ?_)
  rintro e w1 ⟨rfl, hb⟩
  have HB1 := Aside0.mk (below_step (below_alloc (below_alloc HB.out _) _) hb)
  have BR := Aside0.mk (blk_below (blk_alloc (blk_new w _) _) hb)
  have BN := Aside0.mk (blk_below (blk_new (w.alloc _) _) hb)
  clear hb
  have hne1 : w.heap.size ≠ w.heap.size + 1 := by omega
  have hne2 : w.heap.size + 1 ≠ w.heap.size := by omega
  go_wp2
  have HR := BR
  have HW := HB1
  have HN : Aside0 (w1.heap[w.heap.size + 1]? = some (.cells #[.int .i64 0, .int .i64 0, .int .i64 0, .int .i64 0] 68 (0, 0))) := ⟨by simpa using BN.out⟩
  clear BR BN HB1
  have HX := Aside0.mk (blk_drew HN.out)
  replace HR := Aside0.mk (blk_drew HR.out)
  replace HW := Aside0.mk (below_drew1 HW.out)
  refine start_ (n := 4) (S := fun w' => w'.cell? ⟨(w.heap.size + 1), 0, none⟩ = some (.int .i64 0) ∧ w'.cell? ⟨(w.heap.size + 1), 1, none⟩ = some (.int .i64 0) ∧ w'.cell? ⟨(w.heap.size + 1), 2, none⟩ = some (.int .i64 0) ∧ w'.cell? ⟨(w.heap.size + 1), 3, none⟩ = some (.int .i64 0)) (ds := []) #[F_,F_,F_,F_] (by kernel_rfl) rfl rfl ⟨(blk_cell HX.out 0).trans rfl, (blk_cell HX.out 1).trans rfl, (blk_cell HX.out 2).trans rfl, (blk_cell HX.out 3).trans rfl⟩ (fun hHeld => ?_)
  generalize World.drew w1 = V at HX HR HW hHeld ⊢
  refine pure_ (i := 1) (N := some 2) (v := ?_) (a' := ?_) #[F_,T_,F_,F_] rfl rfl (by kernel_rfl) (fun _ _ _ h => h) (Or.inl ⟨by rfl, ?_⟩) ?_ ?_
  rotate_left
  ·intro w'
   go_simp
   with_reducible rfl
  rotate_left
  ·exact put_
  refine take_ (i := 0) (N := some 38) (v := ?_) (a' := ?_) #[T_,T_,F_,F_] rfl rfl (by kernel_rfl) (fun _ _ _ h => h) (Or.inl ⟨by rfl, ?_⟩) hHeld ?_ ?_
  rotate_left
  ·rintro w' ⟨s0, s1, s2, s3⟩
   go_simp
   with_reducible rfl
  rotate_left
  ·exact put_
  refine one_ (i := 2) (N := none) #[T_,T_,T_,F_] rfl rfl (by kernel_rfl) (by decide) (fun K hK => ?_)
  have yc0 : V.cell? ⟨w.heap.size, 0, none⟩ = some (.int .i64 0) := (blk_cell HR.out 0).trans rfl
  have yf0 : V.frozen? ⟨w.heap.size, 0, none⟩ = false := blk_frozen HR.out 0
  have yc1 : V.cell? ⟨w.heap.size, 1, none⟩ = some (.int .i64 0) := (blk_cell HR.out 1).trans rfl
  have yf1 : V.frozen? ⟨w.heap.size, 1, none⟩ = false := blk_frozen HR.out 1
  have yc2 : V.cell? ⟨w.heap.size, 2, none⟩ = some (.int .i64 0) := (blk_cell HR.out 2).trans rfl
  have yf2 : V.frozen? ⟨w.heap.size, 2, none⟩ = false := blk_frozen HR.out 2
  have yc3 : V.cell? ⟨w.heap.size, 3, none⟩ = some (.int .i64 0) := (blk_cell HR.out 3).trans rfl
  have yf3 : V.frozen? ⟨w.heap.size, 3, none⟩ = false := blk_frozen HR.out 3
  refine skip_ (w1 := ?_) (by rfl) rfl ?_ ?_
  rotate_left
  ·go_simp
   rfl
  refine hK.out _ _ ⟨far4_ hne2 (hHeld.1), far4_ hne2 (hHeld.2.1), far4_ hne2 (hHeld.2.2.1), far4_ hne2 (hHeld.2.2.2)⟩ (fun hHeld => ?_)
  clear hK K
  refine pure_ (i := 3) (N := some 4) (v := ?_) (a' := ?_) #[T_,T_,T_,T_] rfl rfl (by kernel_rfl) (fun _ _ _ h => h) (Or.inl ⟨by rfl, ?_⟩) ?_ ?_
  rotate_left
  ·intro w'
   go_simp
   with_reducible rfl
  rotate_left
  ·exact put_
  refine done_ (by kernel_rfl) ?_
  go_wp2
  exact qpx100_
theorem counterfoilref15_Heard.calls (k : Nat) (a0 : ByteArray) (r1 r2 r3 r4 r5 : Int) (r6 : ByteArray) (w : World) (h : counterfoilref15_Heard.f k a0 = some (r1, r2, r3, r4, r5, r6)) :
  Calls Try.prog 30 #[.string a0] w fun e w' => e = .returned (.tuple #[.int .i64 r1, .agg #[.int .i64 r2, .int .i64 r3, .int .i64 r4, .int .i64 r5], .string r6]) ∧ Below w.heap.size w w' :=
 counterfoilref15_Heard.walk k a0 (r1, r2, r3, r4, r5, r6) w h
end Go.Proofs.Ytgfmdfgibkkfaaa.P
