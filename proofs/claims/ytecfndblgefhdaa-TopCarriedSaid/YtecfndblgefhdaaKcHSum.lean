import Derived.Test.YtecfndblgefhdaaProg
import Derived.Test.YtecfndblgefhdaaKcWQPut
import Derived.Laws.Tables
import Derived.LoopTactic
set_option linter.unusedVariables false
set_option linter.unusedSimpArgs false
namespace Go.Proofs.Ytecfndblgefhdaa.P
open Go.RowKit Go.Proofs.YtecfndblgefhdaaW.PrintWords Go.Proofs.YtecfndblgefhdaaW.PrintLast Go.Proofs.YtecfndblgefhdaaW.PrintMore
def crcStep (c : Nat) : Nat := if c % 2 = 1 then (c / 2) ^^^ 3988292384 else c / 2
def crcIter : Nat → Nat → Nat
 | 0, c => c
 | n + 1, c => crcStep (crcIter n c)
def tab (i : Nat) : Nat := crcIter 8 i
theorem step_lt {c : Nat} (h : c < 4294967296) : crcStep c < 4294967296 := by
 unfold crcStep
 split
 ·exact Nat.xor_lt_two_pow (n := 32) (by omega) (by omega)
 ·omega
theorem iter_lt (n : Nat) {c : Nat} (h : c < 4294967296) : crcIter n c < 4294967296 := by
 induction n with
 | zero => exact h
 | succ n ih => exact step_lt ih
theorem tab_lt {i : Nat} (h : i < 256) : tab i < 4294967296 := iter_lt 8 (by omega)
theorem bits_xor32 (a b : Nat) (ha : a < 4294967296) (hb : b < 4294967296) : Go.bits .xor .u32 (a : Int) (b : Int) = ((a ^^^ b : Nat) : Int) := by
 have h := Nat.xor_lt_two_pow (n := 32) ha hb
 simp only [Go.bits, BitVec.ofInt_natCast, BitVec.toNat_xor, BitVec.toNat_ofNat]
 rw [show IntKind.u32.bits = 32 from rfl, Nat.mod_eq_of_lt ha, Nat.mod_eq_of_lt hb]
 rw [IntKind.wrap_u32]
 omega
theorem bits_and1 (a : Nat) (ha : a < 4294967296) : Go.bits .and .u32 (a : Int) 1 = ((a % 2 : Nat) : Int) := by
 have := bits_mask .u32 32 (by decide) (fun n h0 h1 => by rw [IntKind.wrap_u32]; omega) 1 (by decide) (a : Int) (by omega) (by omega)
 simpa using this
def tabRow (i : Nat) : Array Value := ((List.range 256).map fun j => Value.int .u32 (if j < i then (tab j : Int) else 0)).toArray
theorem tabRow_size (i : Nat) : (tabRow i).size = 256 := by simp [tabRow]
theorem tabRow_one (i : Nat) : (tabRow i).all (·.oneCell') = true := by
 rw [Array.all_eq_true_iff_forall_mem]
 intro v hv
 simp only [tabRow, List.mem_toArray, List.mem_map] at hv
 obtain ⟨j, _, rfl⟩ := hv
 rfl
theorem tabRow_get (i j : Nat) (hj : j < 256) : (tabRow i)[j]? = some (.int .u32 (if j < i then (tab j : Int) else 0)) := by
 simp [tabRow, hj]
theorem tabRow_set (i : Nat) (hi : i < 256) : (tabRow i).setIfInBounds i (.int .u32 (tab i : Int)) = tabRow (i + 1) := by
 apply Array.ext_getElem?
 intro j
 rw [Array.getElem?_setIfInBounds]
 by_cases hj : j < 256
 ·rw [tabRow_get _ _ hj, tabRow_get _ _ hj, tabRow_size]
  by_cases he : i = j
  ·subst he; simp [hi]
  ·rw [if_neg he]
   by_cases hlt : j < i
   ·rw [if_pos hlt, if_pos (by omega)]
   ·rw [if_neg hlt, if_neg (by omega)]
 ·rw [Array.getElem?_eq_none (by rw [tabRow_size]; omega), Array.getElem?_eq_none (by rw [tabRow_size]; omega), if_neg (by omega)]
def TabW (w wr : World) (k : Nat) : Prop := wr.heap[w.heap.size]? = some (.cells (tabRow 0) 207 (0, 0)) ∧ wr.heap[w.heap.size + 1]? = some (.cells (tabRow k) 207 (0, 0)) ∧ Below w.heap.size w wr
theorem step_odd {c : Nat} (h : c < 4294967296) (hb : (Go.bits BinOp.and IntKind.u32 (c : Int) 1 == 1) = true) : Value.int .u32 (Go.bits .xor .u32 ((c : Int) / 2) 3988292384) = Value.int .u32 ((crcStep c : Nat) : Int) := by
 rw [bits_and1 c h, beq_iff_eq] at hb
 have := bits_xor32 (c / 2) 3988292384 (by omega) (by omega)
 rw [show (((c / 2 : Nat) : Int)) = (c : Int) / 2 from by omega, show (((3988292384 : Nat) : Int)) = 3988292384 from rfl] at this
 rw [this]
 unfold crcStep
 rw [if_pos (by omega)]
theorem step_even {c : Nat} (h : c < 4294967296) (hb : (Go.bits BinOp.and IntKind.u32 (c : Int) 1 == 1) = false) : crcStep c = c / 2 := by
 rw [bits_and1 c h, beq_eq_false_iff_ne] at hb
 unfold crcStep
 rw [if_neg (by omega)]
theorem tabW_step {w wr : World} {k : Nat} (hk : k < 256) (h : TabW w wr k) : TabW w (wr.setCell ⟨w.heap.size + 1, k, none⟩ (.int .u32 (crcIter 8 k : Nat))) (k + 1) := by
 obtain ⟨h0, h1, hB⟩ := h
 refine ⟨?_, ?_, hB.setCell (by simp) _⟩
 ·rw [heap_setCell_other _ _ _ _ (by simp)]; exact h0
 ·rw [heap_setCell_same _ _ _ _ _ _ h1]
  have := tabRow_set k hk
  rw [tab] at this
  rw [this]
theorem below_setRow {B : Nat} {a w : World} (h : Below B a w) {g : Nat} (hg : B ≤ g) (cs : Array Value) : Below B a (w.setRow g cs) :=
 ⟨h.os, h.tape, h.output, by rw [size_setRow]; exact h.size, fun k hk => (setRow_other w g k cs (by omega)).trans (h.block k hk)⟩
theorem run_zero_info {P : Program} {T : TypeId} {cs : Array Value} (h : (P.info? T).map (·.zero) = some (some (.agg cs))) : ∀ W : World, (zeroValue T).run P W = .ok (.agg cs) W := by
 intro W
 obtain ⟨i, hi, hz⟩ := Option.map_eq_some_iff.1 h
 simp [zeroValue, typeInfo, hi, hz]
theorem infoTab : (Try.prog.info? 207).map (·.zero) = some (some (.agg (tabRow 0))) := by kernel_rfl
theorem sizeTab : (Try.prog.info? 207).map (·.size) = some 256 := by kernel_rfl
set_option maxRecDepth 100000 in
set_option maxHeartbeats 400000 in
theorem sum_Table.walk (w : World) : Calls Try.prog 121 #[] w fun e w' => e = .returned (.agg (tabRow 256)) ∧ Below w.heap.size w w' := by
 have hz := run_zero_info infoTab
 have h0 : (tabRow 0).size = 256 := tabRow_size 0
 have h1 := tabRow_one 0
 have HT : Aside0 (tabRow 0 = tabRow 0) := ⟨rfl⟩
 obtain ⟨T0, hT0⟩ : ∃ T0, T0 = tabRow 0 := ⟨_, rfl⟩
 rw [← hT0] at hz
 replace hT0 := Aside0.mk hT0
 clear h0 h1 HT
 go_enter Try.func121, Try.ntmps121
 go_wp2
 go_loopw [4] (fun i wr => ∃ k : Nat, k ≤ 256 ∧ i = .int .i64 k ∧ Aside0 (TabW w wr k)) (fun i _ => 256 - (intOf i).toNat)
 case atStart =>
  refine ⟨0, by omega, rfl, ⟨?_, ?_, ?_⟩⟩
  ·rw [← hT0.out]; simpa using heap_alloc2_old w _ _
  ·rw [← hT0.out]; simpa using heap_alloc2_new w _ _
  ·exact ((Below.refl _ _).alloc (Nat.le_refl _) _).alloc (by simp) _
 case round =>
  obtain ⟨k, hk, rfl, HW⟩ := hrel
  by_cases hlt : k < 256
  ·have hc : wr.cell? ⟨w.heap.size + 1, k, none⟩ = some (.int .u32 0) := by
    rw [cell_of_row wr _ k _ _ _ HW.out.2.1, tabRow_get _ _ hlt, if_neg (by omega)]
   have hfz : wr.frozen? ⟨w.heap.size + 1, k, none⟩ = false := frozen_of_row wr _ k _ _ HW.out.2.1
   obtain ⟨wo, rfl⟩ : ∃ wo : World, wo = wr := ⟨_, rfl⟩
   go_wp2
   go_loop [3, 9] (fun c j => ∃ m : Nat, m ≤ 8 ∧ j = .int .i64 m ∧ c = .int .u32 (crcIter m k : Nat)) (fun _ j => 8 - (intOf j).toNat)
   case atStart => exact ⟨0, by omega, rfl, rfl⟩
   case round =>
    obtain ⟨m, hm, rfl, rfl⟩ := hrel
    have hlt32 := iter_lt m (show k < 4294967296 by omega)
    by_cases hm8 : m < 8
    ·go_wp2
     ·have hb : (Go.bits BinOp.and IntKind.u32 (↑(crcIter m k)) 1 == 1) = true := by assumption
      go_round
      case rel => exact ⟨m + 1, by omega, by go_num, by rw [crcIter, step_odd hlt32 hb]⟩
      case measure => simp [intOf]; omega
     ·have hb : (Go.bits BinOp.and IntKind.u32 (↑(crcIter m k)) 1 == 1) = false := by assumption
      go_round
      case rel => exact ⟨m + 1, by omega, by go_num, by rw [crcIter, step_even hlt32 hb]; simp⟩
      case measure => simp [intOf]; omega
    ·obtain rfl : m = 8 := by omega
     go_wp2
     go_roundw
     case rel => exact ⟨k + 1, by omega, by go_num, ⟨tabW_step hlt HW.out⟩⟩
     case measure => simp [intOf]; omega
  ·obtain rfl : k = 256 := by omega
   obtain ⟨h0, h1, hB⟩ := HW.out
   have h0' := Aside0.mk h0
   have h1' := Aside0.mk h1
   have hB' := Aside0.mk hB
   have hs0 := Aside0.mk (tabRow_size 0)
   have hs1 := Aside0.mk (tabRow_size 256)
   have ho1 := Aside0.mk (tabRow_one 256)
   clear h0 h1 hB HW hT0 hz
   obtain ⟨R0, hR0⟩ : ∃ R0, R0 = tabRow 0 := ⟨_, rfl⟩
   obtain ⟨R1, hR1⟩ : ∃ R1, R1 = tabRow 256 := ⟨_, rfl⟩
   rw [← hR0] at h0' hs0
   rw [← hR1] at h1' hs1 ho1
   replace hR0 := Aside0.mk hR0
   replace hR1 := Aside0.mk hR1
   go_wp2_with (first
    | (refine wpList_load_row rfl 207 (.tmp 1) rfl _ rfl 207 R1 (0, 0) _ h1'.out Try.underlying207 rfl (sizeTab.trans (by rw [hs1.out])) ?_)
    | (refine wpList_store_row rfl 207 (.tmp 0) (.tmp 24) rfl _ R1 rfl rfl 207 R0 h0'.out (sizeTab.trans (by rw [hs1.out])) (hs0.out.trans hs1.out.symm) ho1.out ?_))
   exact bodyPost_ret (v := .agg R1) (results_cell_row rfl _ _ _ 207 R1 (0, 0) _ rfl (setRow_heap _ _ _ _ _ _ h0'.out) Try.underlying207 rfl (sizeTab.trans (by rw [hs1.out]))) rfl ⟨by rw [hR1.out], below_setRow hB'.out (Nat.le_refl _) _⟩
theorem bits_not32 (a : Nat) (h : a < 4294967296) : Go.bits .xor .u32 4294967295 (a : Int) = ((4294967295 - a : Nat) : Int) := by
 have := bits_xor32 4294967295 a (by omega) h
 rw [show ((4294967295 : Nat) : Int) = 4294967295 from rfl] at this
 rw [this]
 congr 1
 have e : a ^^^ 4294967295 = 4294967295 - a := by
  apply Nat.eq_of_testBit_eq
  intro i
  have h1 := Nat.testBit_two_pow_sub_succ (x := a) (n := 32) (by omega) i
  have h2 := Nat.testBit_two_pow_sub_one 32 i
  rw [show 2 ^ 32 - (a + 1) = 4294967295 - a from by omega] at h1
  rw [show 2 ^ 32 - 1 = 4294967295 from by omega] at h2
  rw [Nat.testBit_xor, h1, h2]
  by_cases hi : i < 32
  ·simp [hi]
  ·have : a.testBit i = false := Nat.testBit_lt_two_pow (Nat.lt_of_lt_of_le (show a < 2 ^ 32 by omega) (Nat.pow_le_pow_right (by omega) (by omega)))
   simp [hi, this]
 rw [Nat.xor_comm, e]
theorem bits_xor8 (a b : Nat) (ha : a < 256) (hb : b < 256) : Go.bits .xor .u8 (a : Int) (b : Int) = ((a ^^^ b : Nat) : Int) := by
 have h := Nat.xor_lt_two_pow (n := 8) ha hb
 simp only [Go.bits, BitVec.ofInt_natCast, BitVec.toNat_xor, BitVec.toNat_ofNat]
 rw [show IntKind.u8.bits = 8 from rfl, Nat.mod_eq_of_lt ha, Nat.mod_eq_of_lt hb]
 rw [IntKind.wrap_u8]
 omega
def crcByte (c b : Nat) : Nat := (c / 256) ^^^ tab ((c % 256) ^^^ b)
def crcL (c : Nat) (l : List UInt8) : Nat := l.foldl (fun c b => crcByte c b.toNat) c
theorem crcByte_lt {c b : Nat} (hc : c < 4294967296) (hb : b < 256) : crcByte c b < 4294967296 := by
 have h := Nat.xor_lt_two_pow (n := 8) (x := c % 256) (y := b) (by omega) (by omega)
 exact Nat.xor_lt_two_pow (n := 32) (by omega) (tab_lt h)
theorem crcL_lt {c : Nat} (l : List UInt8) (hc : c < 4294967296) : crcL c l < 4294967296 := by
 induction l generalizing c with
 | nil => exact hc
 | cons b l ih => exact ih (crcByte_lt hc b.toNat_lt)
theorem crcL_snoc (c : Nat) (l : List UInt8) (b : UInt8) : crcL c (l ++ [b]) = crcByte (crcL c l) b.toNat := by simp [crcL]
theorem crc_take_succ (n : Nat) (s : ByteArray) (k : Nat) (h : k < s.size) : crcL n (s.data.toList.take (k + 1)) = crcByte (crcL n (s.data.toList.take k)) s[k].toNat := by
 rw [List.take_succ_eq_append_getElem (by simpa using h), crcL_snoc]
 rfl
set_option maxRecDepth 100000 in
set_option maxHeartbeats 400000 in
theorem sum_On.walk (c0 : Nat) (s : ByteArray) (w : World) (hc : c0 < 4294967296) (hs : s.size ≤ 9223372036854775807) :
  Calls Try.prog 118 #[.int .u32 (c0 : Int), .string s] w fun e w' => e = .returned (.int .u32 (4294967295 - (crcL (4294967295 - c0) s.data.toList : Nat) : Int)) ∧ Below w.heap.size w w' := by
 have hz := run_zero_info infoTab
 have hs0 := Aside0.mk (tabRow_size 0)
 have hs1 := Aside0.mk (tabRow_size 256)
 have ho1 := Aside0.mk (tabRow_one 256)
 obtain ⟨R0, hR0⟩ : ∃ R0, R0 = tabRow 0 := ⟨_, rfl⟩
 obtain ⟨R1, hR1⟩ : ∃ R1, R1 = tabRow 256 := ⟨_, rfl⟩
 rw [← hR0] at hz hs0
 rw [← hR1] at hs1 ho1
 replace hR1 := Aside0.mk hR1
 clear hR0
 go_enter Try.func118, Try.ntmps118
 go_wp2_with (first
    | (go_at_call 121; refine (sum_Table.walk _).mono ?_; rintro e w1 ⟨rfl, hb1⟩; rw [← hR1.out]; have HB1 := Aside0.mk hb1; clear hb1)
    | (refine wpList_store_row rfl 207 (.tmp 5) (.tmp 8) rfl _ R1 rfl rfl 207 R0 (heap_alloc_new w1 _) (sizeTab.trans (by rw [hs1.out])) (hs0.out.trans hs1.out.symm) ho1.out ?_))
 have HR := Aside0.mk (setRow_heap (w1.alloc (.cells R0 207)) w1.heap.size R0 R1 207 (0, 0) (heap_alloc_new w1 _))
 have HB := Aside0.mk (below_setRow (below_alloc HB1.out (.cells R0 207)) HB1.out.size R1)
 have hmax : IntKind.u32.max = 4294967295 := by decide
 have hnot : Go.bits .xor .u32 IntKind.u32.max (c0 : Int) = ((4294967295 - c0 : Nat) : Int) := by rw [hmax]; exact bits_not32 c0 hc
 rw [hnot]
 clear hnot hmax hs0 hs1 ho1 hz
 obtain ⟨n0, hn0, hn0lt⟩ : ∃ n0 : Nat, 4294967295 - c0 = n0 ∧ n0 < 4294967296 := ⟨_, rfl, by omega⟩
 rw [hn0]
 replace hn0 := Aside0.mk hn0
 generalize (w1.alloc (Obj.cells R0 207)).setRow w1.heap.size R1 = W at *
 generalize w1.heap.size = g at *
 clear HB1
 go_loop [6, 13] (fun c i => ∃ k : Nat, k ≤ s.size ∧ i = .int .i64 k ∧ c = .int .u32 (crcL n0 (s.data.toList.take k) : Nat)) (fun _ i => s.size - (intOf i).toNat)
 case atStart => exact ⟨0, by omega, rfl, rfl⟩
 case round =>
  obtain ⟨k, hk, rfl, rfl⟩ := hrel
  have hcl := crcL_lt (s.data.toList.take k) hn0lt
  by_cases hlt : k < s.size
  ·have hsn := Aside0.mk (crc_take_succ n0 s k hlt)
   generalize crcL n0 (s.data.toList.take k) = c at *
   have hb := s[k].toNat_lt
   have hx := bits_xor8 (c % 256) s[k].toNat (by omega) hb
   have hjl : (c % 256) ^^^ s[k].toNat < 256 := Nat.xor_lt_two_pow (n := 8) (by omega) hb
   rw [show (((c % 256 : Nat)) : Int) = (c : Int) % 256 from by omega] at hx
   obtain ⟨j, hj⟩ : ∃ j, (c % 256) ^^^ s[k].toNat = j := ⟨_, rfl⟩
   rw [hj] at hx hjl
   have htl := tab_lt hjl
   have hcell : W.cell? ⟨g, j, none⟩ = some (.int .u32 (tab j : Nat)) := by
    rw [cell_of_row W _ _ _ _ _ HR.out, hR1.out, tabRow_get _ _ hjl, if_pos hjl]
   have hy := bits_xor32 (c / 256) (tab j) (by omega) htl
   rw [show (((c / 256 : Nat)) : Int) = (c : Int) / 256 from by omega, ← hj] at hy
   have hcr : c / 256 ^^^ tab (c % 256 ^^^ s[k].toNat) = crcByte c s[k].toNat := rfl
   rw [hcr, hj, ← hsn.out] at hy
   clear hb hcr hsn
   replace hj := Aside0.mk hj
   generalize tab j = tj at *
   have hj0 : 0 ≤ (j : Int) := by omega
   have hj1 : (j : Int) < 256 := by omega
   go_wp2
   go_round
   case rel => exact ⟨k + 1, by omega, by go_num, rfl⟩
   case measure => simp [intOf]; omega
  ·obtain rfl : k = s.size := by omega
   rw [show s.data.toList.take s.size = s.data.toList from List.take_of_length_le (by simp)] at *
   have hmax : IntKind.u32.max = 4294967295 := by decide
   have hnot := bits_not32 (crcL n0 s.data.toList) hcl
   rw [← hmax] at hnot
   replace hmax := Aside0.mk hmax
   rw [← hn0.out] at hnot hcl ⊢
   obtain ⟨c, hce⟩ : ∃ c, c = crcL (4294967295 - c0) s.data.toList := ⟨_, rfl⟩
   rw [← hce] at hnot hcl ⊢
   replace hce := Aside0.mk hce
   rw [show ((4294967295 - c : Nat) : Int) = 4294967295 - (c : Int) from by omega] at hnot
   go_wp2
   go_ret
   exact ⟨by rw [← hce.out]; rfl, HB.out⟩
def sum_On.f (a0 : Int) (a1 : ByteArray) : Option Int :=
 if 0 ≤ a0 ∧ a0 < 4294967296 ∧ a1.size ≤ 9223372036854775807 then some (4294967295 - (crcL (4294967295 - a0.toNat) a1.data.toList : Nat)) else none
theorem sum_On.calls (a0 : Int) (a1 : ByteArray) (r : Int) (w : World) (h : sum_On.f a0 a1 = some r) :
  Calls Try.prog 118 #[.int .u32 a0, .string a1] w fun e w' => e = .returned (.int .u32 r) ∧ Below w.heap.size w w' := by
 unfold sum_On.f at h
 by_cases hc : 0 ≤ a0 ∧ a0 < 4294967296 ∧ a1.size ≤ 9223372036854775807
 ·rw [if_pos hc] at h
  obtain ⟨h0, h1, h2⟩ := hc
  obtain ⟨n, rfl⟩ := Int.eq_ofNat_of_zero_le h0
  rw [show (n : Int).toNat = n from by omega] at h
  obtain rfl := Option.some.inj h
  exact sum_On.walk n a1 w (by omega) h2
 ·rw [if_neg hc] at h
  cases h
end Go.Proofs.Ytecfndblgefhdaa.P
namespace Go.Proofs.Ytecfndblgefhdaa.Flow
open Go.RowKit Go.Proofs.YtecfndblgefhdaaW.PrintWords Go.Proofs.YtecfndblgefhdaaW.PrintLast
section
variable {P : Program} {ops : Array Oper} {Q : Exit → Act → World → Prop} {id : Nat}
def und (n : Nat) (L : Array Bool) : Nat := (List.range n).countP fun i => !L.getD i true
theorem countP_less {p q : Nat → Bool} {i : Nat} (h1 : p i = true) (h2 : q i = false) (h3 : ∀ x, x ≠ i → q x = p x) : ∀ l : List Nat, l.countP q + (if i ∈ l then 1 else 0) ≤ l.countP p
 | [] => by simp
 | x :: r => by
  have ih := countP_less h1 h2 h3 r
  rw [List.countP_cons, List.countP_cons]
  by_cases c : x = i
  ·subst c
   rw [h1, h2, if_pos List.mem_cons_self]
   simp only [if_true]
   have : (if x ∈ r then 1 else 0) ≥ 0 := Nat.zero_le _
   simp
   omega
  ·rw [h3 x c]
   have e : (i ∈ x :: r) ↔ i ∈ r := ⟨fun h => by rcases List.mem_cons.1 h with h | h; exact absurd h.symm c; exact h, List.mem_cons_of_mem _⟩
   simp only [e]
   omega
theorem und_set {n : Nat} {L : Array Bool} {i : Nat} (hi : i < n) (hs : L.size = n) (h : L.getD i true = false) : und n (L.setIfInBounds i true) + 1 ≤ und n L := by
 have h0 := countP_less (p := fun i => !L.getD i true) (q := fun j => !(L.setIfInBounds i true).getD j true) (i := i) (by simp only [h]; rfl) (by simp [hs, hi])
  (fun x hx => by simp [Array.getElem?_setIfInBounds, Ne.symm hx]) (List.range n)
 rw [if_pos (List.mem_range.2 hi)] at h0
 exact h0
theorem und_zero {n : Nat} {L : Array Bool} (h : und n L = 0) {i : Nat} (hi : i < n) : L.getD i true = true := by
 cases c : L.getD i true with
 | true => rfl
 | false =>
  have : 0 < und n L := List.countP_pos_iff.2 ⟨i, List.mem_range.2 hi, by rw [c]; rfl⟩
  omega
structure Inv (ops : Array Oper) (R : Nat → World → Value → Prop) (w1 : World) (a0 : Act) (L : Array Bool) (a : Act) (w : World) : Prop where
 sz : L.size = ops.size
 bel : Below w1.heap.size w1 w
 ds : a.defers = a0.defers
 ts : a.tmps.size = a0.tmps.size
 out : ∀ t : Tmp, (∀ (j : Nat) (o : Oper), ops[j]? = some o → o.dst ≠ some t) → a.tmps.getD t undef = a0.tmps.getD t undef
 did : ∀ (j : Nat) (o : Oper) (t : Tmp), ops[j]? = some o → L.getD j true = true → o.dst = some t → R j w (a.tmps.getD t undef)
theorem getD_true {L : Array Bool} {i : Nat} (hi : i < L.size) (h : L.getD i true = true) : L.getD i false = true := by
 simpa [hi] using h
theorem getD_false {L : Array Bool} {i : Nat} (hi : i < L.size) (h : L.getD i false = true) : L.getD i true = true := by
 simpa [hi] using h
variable {R : Nat → World → Value → Prop} {a0 : Act} {w1 : World}
theorem all_done (hback : ∀ (i : Nat) (o : Oper), ops[i]? = some o → ∀ e ∈ o.after, Region.binds .any e = true → e.on < i) {L : Array Bool} (hs : L.size = ops.size) (h : Region.ready .any ops L = []) : ∀ i, i < ops.size → L.getD i true = true := by
 intro i
 induction i using Nat.strongRecOn with
 | ind i ih =>
  intro hi
  cases c : L.getD i true with
  | true => rfl
  | false =>
   have ho : ops[i]? = some ops[i] := Array.getElem?_eq_getElem hi
   have : i ∈ Region.ready .any ops L := mem_ready.2 ⟨c, _, ho, fun e he hb => by
    have h1 := hback i _ ho e he hb
    exact getD_true (by omega) (ih e.on h1 (by omega))⟩
   rw [h] at this
   cases this
theorem flow_any (hds : ∀ (i : Nat) (o : Oper), ops[i]? = some o → ∃ t, o.dst = some t ∧ t < a0.tmps.size ∧ ∀ (j : Nat) (o' : Oper), ops[j]? = some o' → o'.dst = some t → j = i)
  (hback : ∀ (i : Nat) (o : Oper), ops[i]? = some o → ∀ e ∈ o.after, Region.binds .any e = true → e.on < i)
  (hR : ∀ i w w' v, Below w.heap.size w w' → R i w v → R i w' v)
  (hstep : ∀ (i : Nat) (o : Oper), ops[i]? = some o → ∀ a w, Below w1.heap.size w1 w → (∀ t : Tmp, (∀ (j : Nat) (o' : Oper), ops[j]? = some o' → o'.dst ≠ some t) → a.tmps.getD t undef = a0.tmps.getD t undef) →
   (∀ e ∈ o.after, Region.binds .any e = true → ∀ (o' : Oper) (t : Tmp), ops[e.on]? = some o' → o'.dst = some t → R e.on w (a.tmps.getD t undef)) →
   ∀ K : Act → World → Prop, Shut (∀ v w', Below w.heap.size w w' → R i w' v → K (a.put o.dst v) w') → if Region.wanted o (yielded ops a.tmps) = true then Oper.wp P o a w K Q else K (a.put o.dst undef) w)
  (hfin : ∀ a w, Below w1.heap.size w1 w → a.defers = a0.defers → a.tmps.size = a0.tmps.size → (∀ t : Tmp, (∀ (j : Nat) (o' : Oper), ops[j]? = some o' → o'.dst ≠ some t) → a.tmps.getD t undef = a0.tmps.getD t undef) →
   (∀ (i : Nat) (o : Oper) (t : Tmp), ops[i]? = some o → o.dst = some t → R i w (a.tmps.getD t undef)) → Q .normal a w) :
  ∀ fuel L a w, und ops.size L ≤ fuel → Inv ops R w1 a0 L a w → wpAnyLast P .any ops Q (fun _ => True) [] fuel L a w := by
 have hend : ∀ L a w, Inv ops R w1 a0 L a w → (∀ i, i < ops.size → L.getD i true = true) → Q .normal a w := fun L a w hI hall =>
  hfin a w hI.bel hI.ds hI.ts hI.out (fun i o t ho ht => hI.did i o t ho (hall i (Array.getElem?_eq_some_iff.1 ho).1) ht)
 intro fuel
 induction fuel with
 | zero =>
  intro L a w hu hI
  have hall : ∀ i, i < ops.size → L.getD i true = true := fun i hi => und_zero (by omega) hi
  refine ⟨?_, hend L a w hI hall⟩
  cases hr : Region.ready .any ops L with
  | nil => rfl
  | cons j r =>
   have hj : j ∈ Region.ready .any ops L := by rw [hr]; exact List.mem_cons_self
   obtain ⟨h1, o, ho, _⟩ := mem_ready.1 hj
   rw [hall j (Array.getElem?_eq_some_iff.1 ho).1] at h1
   cases h1
 | succ fuel ih =>
  intro L a w hu hI
  refine ⟨fun hr => hend L a w hI (all_done hback hI.sz hr), fun i hi => ?_⟩
  obtain ⟨hun, o, ho, hall⟩ := mem_ready.1 hi
  have hlt : i < ops.size := (Array.getElem?_eq_some_iff.1 ho).1
  obtain ⟨t, ht, htl, hone⟩ := hds i o ho
  refine wpOp_step ho (fun K' hK => hstep i o ho a w hI.bel hI.out (fun e he hb o' t' ho' ht' => ?_) K' (fun v w' hb hr => hK _ _ ⟨fun _ _ => trivial, ih _ _ _ ?_ ?_⟩))
  ·refine hI.did e.on o' t' ho' (getD_false ?_ (hall e he hb)) ht'
   rw [hI.sz]
   exact (Array.getElem?_eq_some_iff.1 ho').1
  ·have := und_set hlt hI.sz hun
   omega
  ·have hput : (a.put o.dst v).tmps = a.tmps.setIfInBounds t v := by rw [ht]; rfl
   have hget : ∀ s, s ≠ t → (a.put o.dst v).tmps.getD s undef = a.tmps.getD s undef := fun s hs => by
    rw [hput]; simp [Array.getElem?_setIfInBounds, Ne.symm hs]
   refine ⟨by rw [Array.size_setIfInBounds]; exact hI.sz, below_step hI.bel hb, by rw [ht]; exact hI.ds, by rw [hput, Array.size_setIfInBounds]; exact hI.ts, fun s hs => ?_, fun j o' s ho' hd' hs' => ?_⟩
   ·rw [hget s (fun e => hs i o ho (by rw [e]; exact ht))]
    exact hI.out s hs
   ·by_cases c : j = i
    ·subst c
     rw [ho] at ho'
     obtain rfl := Option.some.inj ho'
     rw [ht] at hs'
     obtain rfl := Option.some.inj hs'
     have : (a.put o.dst v).tmps.getD t undef = v := by rw [hput]; simp [hI.ts, htl]
     rw [this]
     exact hr
    ·have hs2 : s ≠ t := fun e => c (hone j o' ho' (by rw [hs', e]))
     rw [hget s hs2]
     refine hR j w w' _ hb (hI.did j o' s ho' ?_ hs')
     simpa [Array.getElem?_setIfInBounds, Ne.symm c] using hd'
def dstsB (ops : Array Oper) (n : Nat) : Bool := (List.range ops.size).all fun i => match ops[i]? with
 | none => true
 | some o => match o.dst with
  | none => false
  | some t => decide (t < n) && (List.range ops.size).all fun j => j == i || match ops[j]? with
   | none => true
   | some o' => o'.dst != some t
def backB (ops : Array Oper) : Bool := (List.range ops.size).all fun i => match ops[i]? with
 | none => true
 | some o => o.after.all fun e => !Region.binds .any e || decide (e.on < i)
theorem dsts_of {n : Nat} (h : dstsB ops n = true) : ∀ (i : Nat) (o : Oper), ops[i]? = some o → ∃ t, o.dst = some t ∧ t < n ∧ ∀ (j : Nat) (o' : Oper), ops[j]? = some o' → o'.dst = some t → j = i := by
 intro i o ho
 have h1 := List.all_eq_true.1 h i (List.mem_range.2 (Array.getElem?_eq_some_iff.1 ho).1)
 rw [ho] at h1
 dsimp only at h1
 cases ht : o.dst with
 | none => rw [ht] at h1; cases h1
 | some t =>
  rw [ht] at h1
  dsimp only at h1
  rw [Bool.and_eq_true, decide_eq_true_eq] at h1
  refine ⟨t, rfl, h1.1, fun j o' ho' hd => ?_⟩
  have h2 := List.all_eq_true.1 h1.2 j (List.mem_range.2 (Array.getElem?_eq_some_iff.1 ho').1)
  rw [ho'] at h2
  dsimp only at h2
  rw [hd] at h2
  simpa using h2
theorem back_of (h : backB ops = true) : ∀ (i : Nat) (o : Oper), ops[i]? = some o → ∀ e ∈ o.after, Region.binds .any e = true → e.on < i := by
 intro i o ho e he hb
 have h1 := List.all_eq_true.1 h i (List.mem_range.2 (Array.getElem?_eq_some_iff.1 ho).1)
 rw [ho] at h1
 dsimp only at h1
 have h2 := Array.all_eq_true_iff_forall_mem.1 h1 e he
 rw [hb] at h2
 simpa using h2
theorem flow_ {w0 : World} (n : Nat) (hn : a0.tmps.size = n) (hm : P.follows .mixedOrders = true) (hd : dstsB ops n = true) (hb : backB ops = true) (R : Nat → World → Value → Prop)
  (hR : ∀ i w w' v, Below w.heap.size w w' → R i w v → R i w' v)
  (hstep : ∀ (i : Nat) (o : Oper), ops[i]? = some o → ∀ a w, Below w0.drew.heap.size w0.drew w → (∀ t : Tmp, (∀ (j : Nat) (o' : Oper), ops[j]? = some o' → o'.dst ≠ some t) → a.tmps.getD t undef = a0.tmps.getD t undef) →
   (∀ e ∈ o.after, Region.binds .any e = true → ∀ (o' : Oper) (t : Tmp), ops[e.on]? = some o' → o'.dst = some t → R e.on w (a.tmps.getD t undef)) →
   ∀ K : Act → World → Prop, Shut (∀ v w', Below w.heap.size w w' → R i w' v → K (a.put o.dst v) w') → if Region.wanted o (yielded ops a.tmps) = true then Oper.wp P o a w K Q else K (a.put o.dst undef) w)
  (hfin : ∀ a w, Below w0.drew.heap.size w0.drew w → a.defers = a0.defers → a.tmps.size = a0.tmps.size → (∀ t : Tmp, (∀ (j : Nat) (o' : Oper), ops[j]? = some o' → o'.dst ≠ some t) → a.tmps.getD t undef = a0.tmps.getD t undef) →
   (∀ (i : Nat) (o : Oper) (t : Tmp), ops[i]? = some o → o.dst = some t → R i w (a.tmps.getD t undef)) → Q .normal a w) : (Code.region id ops true).wp P Q a0 w0 := by
 refine wp_region_last (S := fun _ => True) (ds := []) hm ?_
 refine flow_any (w1 := w0.drew) (a0 := a0) (R := R) (by rw [hn]; exact dsts_of hd) (back_of hb) hR hstep hfin _ _ _ _ ?_ ?_
 ·exact Nat.le_trans List.countP_le_length (by simp)
 ·exact ⟨by simp, Below.refl _ _, rfl, rfl, fun _ _ => rfl, fun j o t ho hd _ => by
   have := (Array.getElem?_eq_some_iff.1 ho).1
   simp [this] at hd⟩
structure MR where
 r : World → Value → Prop
 m : ∀ w w' v, Below w.heap.size w w' → r w v → r w' v
def MR.is (u : Value) : MR := ⟨fun _ v => v = u, fun _ _ _ _ h => h⟩
def MR.row {α : Type} (d : Kd α) (e base : Nat) (xs : List α) : MR := ⟨fun w v => d.R e w base (fun _ => True) v xs, fun _ _ _ hb h => Kd.R_below h hb⟩
def MR.any : MR := ⟨fun _ _ => True, fun _ _ _ _ h => h⟩
def AllF (Φ : Nat → Oper → Prop) : Nat → List Oper → Prop
 | _, [] => True
 | s, o :: r => Φ s o ∧ AllF Φ (s + 1) r
theorem all_of {Φ : Nat → Oper → Prop} : ∀ (l : List Oper) (s : Nat), AllF Φ s l → ∀ (i : Nat) (o : Oper), l[i]? = some o → Φ (s + i) o
 | [], _, _, i, o, h => by simp at h
 | x :: r, s, hA, 0, o, h => by
  obtain rfl : x = o := by simpa using h
  exact hA.1
 | x :: r, s, hA, i + 1, o, h => by
  have := all_of r (s + 1) hA.2 i o (by simpa using h)
  rwa [show s + 1 + i = s + (i + 1) by omega] at this
theorem notdst {t : Tmp} (h : (ops.toList.all fun o => o.dst != some t) = true) : ∀ (j : Nat) (o : Oper), ops[j]? = some o → o.dst ≠ some t := by
 intro j o ho e
 have h1 := List.all_eq_true.1 h o (by rw [Array.mem_toList_iff]; exact Array.mem_of_getElem? ho)
 rw [e] at h1
 simp at h1
theorem flowL {w0 : World} (n : Nat) (hn : a0.tmps.size = n) (hm : P.follows .mixedOrders = true) (hd : dstsB ops n = true) (hb : backB ops = true) (L : List MR)
  (hstep : AllF (fun i o => ∀ (a : Act) (w : World), Below w0.drew.heap.size w0.drew w → (∀ t : Tmp, (ops.toList.all fun o => o.dst != some t) = true → a.tmps.getD t undef = a0.tmps.getD t undef) →
   (∀ (q : Nat) (e : Edge), o.after[q]? = some e → Region.binds .any e = true → ∀ (o' : Oper) (t : Tmp), ops[e.on]? = some o' → o'.dst = some t → (L.getD e.on MR.any).r w (a.tmps.getD t undef)) →
   ∀ K : Act → World → Prop, Shut (∀ v w', Below w.heap.size w w' → (L.getD i MR.any).r w' v → K (a.put o.dst v) w') → if Region.wanted o (yielded ops a.tmps) = true then Oper.wp P o a w K Q else K (a.put o.dst undef) w) 0 ops.toList)
  (hfin : ∀ a w, Below w0.drew.heap.size w0.drew w → a.defers = a0.defers → (∀ (i : Nat) (o : Oper) (t : Tmp), ops[i]? = some o → o.dst = some t → (L.getD i MR.any).r w (a.tmps.getD t undef)) → Q .normal a w) : (Code.region id ops true).wp P Q a0 w0 := by
 refine flow_ n hn hm hd hb (fun i => (L.getD i MR.any).r) (fun i => (L.getD i MR.any).m) (fun i o ho a w hbel hout hdep K hK => ?_) (fun a w h1 h2 _ _ h5 => hfin a w h1 h2 h5)
 have h0 := all_of ops.toList 0 hstep i o (by rw [Array.getElem?_toList]; exact ho) a w hbel (fun t ht => hout t (notdst ht)) (fun q e he hb o' t ho' ht => hdep e (Array.mem_of_getElem? he) hb o' t ho' ht) K
 rw [Nat.zero_add] at h0
 exact h0 hK
end
end Go.Proofs.Ytecfndblgefhdaa.Flow
