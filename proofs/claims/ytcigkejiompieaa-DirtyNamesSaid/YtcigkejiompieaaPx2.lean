-- Printed by this session's own program wip/mprint.py
import Derived.Test.YtcigkejiompieaaPx0
import Derived.Test.YtcigkejiompieaaPx1
namespace Go.Proofs.Ytcigkejiompieaa.P
open Go.RowKit Go.Proofs.YtcigkejiompieaaW.PrintWords Go.Proofs.YtcigkejiompieaaW.PrintLast Go.Proofs.YtcigkejiompieaaW.PrintMore
attribute [local go_sem] max2_int min2_int max_two min_two max_three min_three max_four min_four   -- for this text's walks alone
set_option linter.unusedVariables false
set_option linter.unusedSimpArgs false

attribute [local go_sem high] eqA63
-- NOT PRINTED: function 33 (dirty_masks_bits)

/-! ### dirty_block: function 35 -/
def dirty_block.f (a0 : Int) (a1 : Int) : Option (Bool) := if a0 ≥ 1 then (if a0 ≤ 255 then (if a1 ≥ 0 then (some (decide (a1 < 32))) else (some false)) else (some false)) else (some false)
set_option maxHeartbeats 8000000 in
set_option maxRecDepth 100000 in
theorem dirty_block.calls (a0 : Int) (a1 : Int) (r : Bool) (w : World) (h : dirty_block.f a0 a1 = some r) :
    Calls Try.prog 35 #[.int .i64 a0, .int .i64 a1] w fun e w' => e = .returned (.bool r) ∧ Drawn0 w w' := by
  have H : (if a0 ≥ 1 then (if a0 ≤ 255 then (if a1 ≥ 0 then (some (decide (a1 < 32))) else (some false)) else (some false)) else (some false)) = some r := h
  clear h
  by_cases c3 : a0 ≥ 1
  · rw [if_pos c3] at H
    have c3b0 : decide (1 ≤ a0) = true := decide_eq_true c3
    clear c3
    by_cases c4 : a0 ≤ 255
    · rw [if_pos c4] at H
      have c4b0 : decide (a0 ≤ 255) = true := decide_eq_true c4
      clear c4
      by_cases c5 : a1 ≥ 0
      · rw [if_pos c5] at H
        have c5b0 : decide (0 ≤ a1) = true := decide_eq_true c5
        clear c5
        obtain rfl := Option.some.inj H
        go_enter Try.func35, Try.ntmps35
        go_wp2
        go_ret
        exact ⟨by first | rfl | (simp; done) | (simp [*]; done), by repeat (first | exact Drawn0.refl _ | apply Drawn0.step)⟩
      · rw [if_neg c5] at H
        have c5b0 : decide (0 ≤ a1) = false := decide_eq_false c5
        clear c5
        obtain rfl := Option.some.inj H
        go_enter Try.func35, Try.ntmps35
        go_wp2
        go_ret
        exact ⟨by first | rfl | (simp; done) | (simp [*]; done), by repeat (first | exact Drawn0.refl _ | apply Drawn0.step)⟩
    · rw [if_neg c4] at H
      have c4b0 : decide (a0 ≤ 255) = false := decide_eq_false c4
      clear c4
      obtain rfl := Option.some.inj H
      go_enter Try.func35, Try.ntmps35
      go_wp2
      go_ret
      exact ⟨by first | rfl | (simp; done) | (simp [*]; done), by repeat (first | exact Drawn0.refl _ | apply Drawn0.step)⟩
  · rw [if_neg c3] at H
    have c3b0 : decide (1 ≤ a0) = false := decide_eq_false c3
    clear c3
    obtain rfl := Option.some.inj H
    go_enter Try.func35, Try.ntmps35
    go_wp2
    go_ret
    exact ⟨by first | rfl | (simp; done) | (simp [*]; done), by repeat (first | exact Drawn0.refl _ | apply Drawn0.step)⟩

/-! ### dirty_Of: function 23 -/
/-! The block of the masks: one number for each volume -/
def mrow (T : Nat → Int) : Array Value := ((List.range 256).map fun j => Value.int .u64 (T j)).toArray
theorem mrow_size (T : Nat → Int) : (mrow T).size = 256 := by simp [mrow]
theorem mrow_get (T : Nat → Int) (j : Nat) (hj : j < 256) : (mrow T)[j]? = some (.int .u64 (T j)) := by simp [mrow, hj]
def upd (T : Nat → Int) (i : Nat) (x : Int) : Nat → Int := fun j => if j = i then x else T j
theorem mrow_set (T : Nat → Int) (i : Nat) (x : Int) (hi : i < 256) : (mrow T).setIfInBounds i (.int .u64 x) = mrow (upd T i x) := by
  apply Array.ext_getElem?
  intro j
  rw [Array.getElem?_setIfInBounds]
  by_cases hj : j < 256
  · rw [mrow_get _ _ hj, mrow_get _ _ hj, mrow_size]
    by_cases he : i = j
    · subst he; simp [hi, upd]
    · rw [if_neg he]; simp [upd, show ¬ j = i from fun h => he h.symm]
  · rw [Array.getElem?_eq_none (by rw [mrow_size]; omega), Array.getElem?_eq_none (by rw [mrow_size]; omega), if_neg (by omega)]
theorem mrow_cell {W : World} {g : Nat} {T : Nat → Int} {t : TypeId} (h : W.heap[g]? = some (.cells (mrow T) t (0, 0))) (j : Nat) (hj : j < 256) : W.cell? ⟨g, j, none⟩ = some (.int .u64 (T j)) := (blk_cell h j).trans (mrow_get T j hj)
/-- The list of the masks of the volumes below j. -/
def bitsTo (T : Nat → Int) : Nat → List S63
  | 0 => []
  | j + 1 => if T j = 0 then bitsTo T j else bitsTo T j ++ [(⟨(j : Int), T j⟩ : S63)]
theorem bitsTo_len (T : Nat → Int) (j : Nat) : (bitsTo T j).length ≤ j := by
  induction j with
  | zero => exact Nat.le_refl _
  | succ j ih =>
    unfold bitsTo
    split
    · omega
    · rw [List.length_append, List.length_singleton]; omega
set_option maxHeartbeats 4000000 in
set_option maxRecDepth 100000 in
theorem masks_bits.calls (g : Nat) (T : Nat → Int) (w : World) (hg : w.heap[g]? = some (.cells (mrow T) 78 (0, 0))) :
    Calls Try.prog 33 #[.pointer (some ⟨g, 0, none⟩)] w fun e w' => ∃ v : Value, e = .returned v ∧ Kd.R k63 63 w' w.heap.size (fun _ => True) v (bitsTo T 256) ∧ Below w.heap.size w w' := by
  have HG0 := Aside0.mk hg
  have HB := Aside0.mk (Below.refl w.heap.size w)
  clear hg
  go_enter Try.func33, Try.ntmps33
  go_wp2
  go_loopw [3, 7] (fun v i wr => ∃ j : Nat, j ≤ 256 ∧ i = .int .i64 j ∧ Aside0 (Kd.R k63 63 wr w.heap.size (fun _ => True) v (bitsTo T j)) ∧ Aside0 (Below w.heap.size w wr)) (fun _ i _ => 256 - (intOf i).toNat)
  case atStart => exact ⟨0, by omega, rfl, ⟨Kd.R_nil _ _ _ _ _⟩, HB⟩
  case round =>
    obtain ⟨j, hj, rfl, HO, HW⟩ := hrel
    by_cases hj2 : j < 256
    · have c1 : decide ((j : Int) < 256) = true := decide_eq_true (by omega)
      have d1 : (0 : Int) ≤ (j : Int) := by omega
      have d2 : (j : Int) < 256 := by omega
      go_upto_region 4 with (fail)
      replace HO := Aside0.mk (Kd.R_drew HO.out)
      replace HW := Aside0.mk (below_drew1 HW.out)
      have HG := Aside0.mk (blk_below HG0.out HW.out)
      refine start_ (n := 6) (S := fun w' => w'.cell? ⟨g, j, none⟩ = some (.int .u64 (T j))) (ds := []) #[false, false, false, false, false, false] (by kernel_rfl) rfl rfl (mrow_cell HG.out j hj2) (fun hHeld => ?_)
      generalize World.drew wr = V at HG HO HW hHeld ⊢
      refine pure_ (i := 0) (N := some 9) (v := ?_) (a' := ?_) #[true, false, false, false, false, false] rfl rfl (by kernel_rfl) (fun _ _ _ h => h) (Or.inl ⟨by rfl, ?_⟩) ?_ ?_
      rotate_left
      · intro w'
        go_simp
        with_reducible rfl
      rotate_left
      · simp only [Act.put, List.setIfInBounds_toArray, List.set_cons_zero, List.set_cons_succ, i64_w, i32_w]
        rfl
      refine pure_ (i := 1) (N := some 10) (v := ?_) (a' := ?_) #[true, true, false, false, false, false] rfl rfl (by kernel_rfl) (fun _ _ _ h => h) (Or.inl ⟨by rfl, ?_⟩) ?_ ?_
      rotate_left
      · intro w'
        go_simp
        with_reducible rfl
      rotate_left
      · simp only [Act.put, List.setIfInBounds_toArray, List.set_cons_zero, List.set_cons_succ, i64_w, i32_w]
        rfl
      refine pure_ (i := 2) (N := some 11) (v := ?_) (a' := ?_) #[true, true, true, false, false, false] rfl rfl (by kernel_rfl) (fun _ _ _ h => h) (Or.inl ⟨by rfl, ?_⟩) ?_ ?_
      rotate_left
      · intro w'
        go_simp
        with_reducible rfl
      rotate_left
      · simp only [Act.put, List.setIfInBounds_toArray, List.set_cons_zero, List.set_cons_succ, i64_w, i32_w]
        rfl
      refine pure_ (i := 4) (N := some 4) (v := ?_) (a' := ?_) #[true, true, true, false, true, false] rfl rfl (by kernel_rfl) (fun _ _ _ h => h) (Or.inl ⟨by rfl, ?_⟩) ?_ ?_
      rotate_left
      · intro w'
        go_simp
        with_reducible rfl
      rotate_left
      · simp only [Act.put, List.setIfInBounds_toArray, List.set_cons_zero, List.set_cons_succ, i64_w, i32_w]
        rfl
      refine take_ (i := 3) (N := some 12) (v := ?_) (a' := ?_) #[true, true, true, true, true, false] rfl rfl (by kernel_rfl) (fun _ _ _ h => h) (Or.inl ⟨by rfl, ?_⟩) hHeld ?_ ?_
      rotate_left
      · intro w' s0
        go_simp
        with_reducible rfl
      rotate_left
      · simp only [Act.put, List.setIfInBounds_toArray, List.set_cons_zero, List.set_cons_succ, i64_w, i32_w]
        rfl
      refine pure_ (i := 5) (N := some 5) (v := ?_) (a' := ?_) #[true, true, true, true, true, true] rfl rfl (by kernel_rfl) (fun _ _ _ h => h) (Or.inl ⟨by rfl, ?_⟩) ?_ ?_
      rotate_left
      · intro w'
        go_simp
        with_reducible rfl
      rotate_left
      · simp only [Act.put, List.setIfInBounds_toArray, List.set_cons_zero, List.set_cons_succ, i64_w, i32_w]
        rfl
      refine done_ (by kernel_rfl) ?_
      by_cases hz : T j = 0
      · have c2 : (T j != 0) = false := bne_eq_false_iff_eq.2 hz
        go_wp2
        go_roundw
        case rel => exact ⟨j + 1, by omega, by go_num, ⟨by have h := HO.out; unfold bitsTo; rw [if_pos hz]; exact h⟩, HW⟩
        case measure => simp [intOf]; omega
      · have c2 : (T j != 0) = true := bne_iff_ne.2 hz
        have hlen := Aside0.mk (bitsTo_len T j)
        go_wp2_with ((with_reducible refine gate_builtin (b := .append) (xs := #[.tmp 15, .tmp 19]) rfl ?_); at_builtin; refine Kd.R_append k63 (w0 := w) w.heap.size rfl (.tmp 15) (.tmp 19) 22 63 (.agg #[(.int .i64 0), (.int .u64 0)]) 16 rfl Try.underlying22 info63 rfl (by decide) (by omega) u3 (bitsTo T j) (⟨(j : Int), T j⟩ : S63) [.int .i64 (j : Int), .int .u64 (T j)] (fun _ => True) (fun _ => False) rfl rfl ?aP (fun _ hk => hk.elim) ?aF ?aO ?aB ?aS ?aL ?_; (case aP => exact k63_mkM _ _ _ (⟨(j : Int), T j⟩ : S63)); (case aB => exact HW.out); (case aF => exact (fun _ _ => trivial)); (case aO => exact HO.out); (case aS => exact below_size HW.out); (case aL => have := hlen.out; omega); intro v1 w1 ho hb hg hat; have HO1 := Aside0.mk ho; have HW1 := Aside0.mk hb; clear ho hb hg hat)
        go_roundw
        case rel => exact ⟨j + 1, by omega, by go_num, ⟨by have h := HO1.out; unfold bitsTo; rw [if_neg hz]; exact h⟩, HW1⟩
        case measure => simp [intOf]; omega
    · obtain rfl : j = 256 := by omega
      go_wp2
      go_ret
      exact ⟨_, rfl, HO.out, HW.out⟩
/-! spread -/
def orOne (T : Nat → Int) (b : S63) : Nat → Int := upd T b.f0.toNat (Go.bits .or .u64 (T b.f0.toNat) b.f1)
def orAll (T : Nat → Int) (m : List S63) : Nat → Int := m.foldl orOne T
def spr (T : Nat → Int) (m : List S63) (i : Nat) : Nat → Int := orAll T (m.take i)
theorem spr_succ (T : Nat → Int) (m : List S63) (i : Nat) (h : i < m.length) : spr T m (i + 1) = orOne (spr T m i) (rd_T63 m (i : Int)) := by
  have hd : rd_T63 m (i : Int) = m[i] := by
    unfold rd_T63
    rw [Int.toNat_natCast, List.getD_eq_getElem?_getD, List.getElem?_eq_getElem h]
    rfl
  unfold spr orAll
  rw [List.take_add_one, List.getElem?_eq_getElem h, hd, List.foldl_append]
  rfl
theorem spr_all (T : Nat → Int) (m : List S63) : spr T m m.length = orAll T m := by unfold spr; rw [List.take_length]
theorem rd_mem (m : List S63) (i : Nat) (h : i < m.length) : rd_T63 m (i : Int) ∈ m := by
  unfold rd_T63
  rw [Int.toNat_natCast, List.getD_eq_getElem?_getD, List.getElem?_eq_getElem h]
  exact List.getElem_mem h
def zeros : Nat → Int := fun _ => 0
def sprL (L : List (List S63)) (j : Nat) : Nat → Int := (L.take j).foldl orAll zeros
theorem sprL_succ (L : List (List S63)) (j : Nat) (h : j < L.length) : sprL L (j + 1) = orAll (sprL L j) L[j] := by
  unfold sprL
  rw [List.take_add_one, List.getElem?_eq_getElem h, List.foldl_append]
  rfl
/-- Masks whose volumes are places of the block. -/
def inB (m : List S63) : Prop := ∀ b ∈ m, 0 ≤ b.f0 ∧ b.f0 < 256
theorem infoZ : (Try.prog.info? 78).map (·.zero) = some (some (.agg (mrow zeros))) := by kernel_rfl
theorem run_zero_of {P : Program} {T : TypeId} {cs : Array Value} (h : (P.info? T).map (·.zero) = some (some (.agg cs))) : ∀ W : World, (zeroValue T).run P W = .ok (.agg cs) W := by
  intro W
  obtain ⟨i, hi, hz⟩ := Option.map_eq_some_iff.1 h
  simp [zeroValue, typeInfo, hi, hz]
def SprI (w W : World) (T : Nat → Int) : Prop := W.heap[w.heap.size]? = some (.cells (mrow T) 78 (0, 0)) ∧ Below w.heap.size w W
set_option maxHeartbeats 4000000 in
set_option maxRecDepth 100000 in
theorem dirty_spread.calls (gl n c : Nat) (L : List (List S63)) (w : World) (hn : n = L.length) (hLn : L.length ≤ 4611686018427387904)
    (hl : ∀ (j : Nat) (h : j < L.length), ∃ A c, w.cell? ⟨gl, j, none⟩ = some (.slice A (L[j]).length c) ∧ Kd.C k63 w A (L[j]).length L[j]) (hv : ∀ m ∈ L, inB m) :
    Calls Try.prog 32 #[.slice (some ⟨gl, 0, none⟩) n c] w fun e w' => e = .returned (.pointer (some ⟨w.heap.size, 0, none⟩)) ∧ w'.heap[w.heap.size]? = some (.cells (mrow (sprL L L.length)) 78 (0, 0)) ∧ Below w.heap.size w w' := by
  subst hn
  have HL := Aside0.mk hl
  have HLn := Aside0.mk hLn
  clear hLn
  have HV := Aside0.mk hv
  clear hl hv
  have hz := run_zero_of infoZ
  obtain ⟨Z, hZ⟩ : ∃ Z, Z = mrow zeros := ⟨_, rfl⟩
  rw [← hZ] at hz
  have h0 := Aside0.mk (below_alloc (Below.refl w.heap.size w) (.cells Z 78 (0, 0)))
  have h1 := Aside0.mk (blk_new w (.cells Z 78 (0, 0)))
  replace hZ := Aside0.mk hZ
  go_enter Try.func32, Try.ntmps32
  go_upto_region 2 with (fail)
  generalize w.alloc (.cells Z 78 (0, 0)) = w1 at h0 h1 ⊢
  have HI0 : Aside0 (SprI w w1 (sprL L 0)) := ⟨by have h := h1.out; rw [hZ.out] at h; have h' := h0.out; exact ⟨h, h'⟩⟩
  clear h0 h1 hz hZ
  go_wp2
  go_loopw [10] (fun i wr => ∃ j : Nat, j ≤ L.length ∧ i = .int .i64 j ∧ Aside0 (SprI w wr (sprL L j))) (fun i _ => L.length - (intOf i).toNat)
  case atStart => exact ⟨0, by omega, rfl, HI0⟩
  case round =>
    obtain ⟨j, hj, rfl, HI⟩ := hrel
    have hLn := HLn.out
    by_cases hj2 : j < L.length
    · have c1 : decide ((j : Int) < (L.length : Int)) = true := decide_eq_true (by omega)
      have d1 : (0 : Int) ≤ (j : Int) := by omega
      have d2 : (j : Int) < (L.length : Int) := by omega
      obtain ⟨A, c2, hcl, hC⟩ := HL.out j hj2
      obtain ⟨m, hm⟩ : ∃ m, m = L[j] := ⟨_, rfl⟩
      rw [← hm] at hcl hC
      have HM := Aside0.mk hC
      have HB := Aside0.mk (show inB m from hm ▸ HV.out _ (List.getElem_mem hj2))
      have HN := Aside0.mk (show sprL L (j + 1) = orAll (sprL L j) m from hm ▸ sprL_succ L j hj2)
      replace hcl := (HI.out.2.cell (World.block_lt_of_cell? w _ hcl)).trans hcl
      clear hC hm
      obtain ⟨T0, hT0⟩ : ∃ T0, T0 = sprL L j := ⟨_, rfl⟩
      rw [← hT0] at HI HN
      clear hT0
      go_upto_region 6 with (fail)
      go_loopw [16] (fun i wr => ∃ i' : Nat, i' ≤ m.length ∧ i = .int .i64 i' ∧ Aside0 (SprI w wr (spr T0 m i'))) (fun i _ => m.length - (intOf i).toNat)
      case atStart => exact ⟨0, by omega, rfl, HI⟩
      case round =>
        obtain ⟨i, hi, rfl, HI2⟩ := hrel
        have hmn : m.length ≤ 9223372036854775807 := HM.out.2.1
        by_cases hi2 : i < m.length
        · have c3 : decide ((i : Int) < (m.length : Int)) = true := decide_eq_true (by omega)
          have d5 : (0 : Int) ≤ (i : Int) := by omega
          have d6 : (i : Int) < (m.length : Int) := by omega
          obtain ⟨b, hb⟩ : ∃ b, b = rd_T63 m (i : Int) := ⟨_, rfl⟩
          have HS := Aside0.mk (show spr T0 m (i + 1) = orOne (spr T0 m i) b from hb ▸ spr_succ T0 m i hi2)
          obtain ⟨d7, d8⟩ := HB.out b (hb ▸ rd_mem m i hi2)
          obtain ⟨v, hv⟩ := Int.eq_ofNat_of_zero_le d7
          obtain ⟨ad, hA, x0, x1⟩ := at_T63 HM.out (i : Int) d5 d6
          rw [← hb, hv] at x0
          rw [← hb] at x1
          rw [Int.toNat_natCast] at x0 x1
          subst hA
          replace x0 := (HI2.out.2.cell (World.block_lt_of_cell? w _ x0)).trans x0
          replace x1 := (HI2.out.2.cell (World.block_lt_of_cell? w _ x1)).trans x1
          have d4 : v < 256 := by omega
          have d9 : (0 : Int) ≤ (v : Int) := by omega
          have d10 : (v : Int) < 256 := by omega
          have Hv := Aside0.mk hv
          clear hb hv d7 d8
          obtain ⟨T, hT⟩ : ∃ T, T = spr T0 m i := ⟨_, rfl⟩
          rw [← hT] at HI2 HS
          clear hT
          have HT := Aside0.mk (blk_alloc HI2.out.1 (.cells #[.int .i64 (v : Int), .int .u64 b.f1] 63 (0, 0)))
          have HBb := Aside0.mk (blk_new wr (.cells #[.int .i64 (v : Int), .int .u64 b.f1] 63 (0, 0)))
          have HW := Aside0.mk (below_alloc HI2.out.2 (.cells #[.int .i64 (v : Int), .int .u64 b.f1] 63 (0, 0)))
          go_upto_region 8 with (fail)
          replace HT := Aside0.mk (blk_drew HT.out)
          replace HBb := Aside0.mk (blk_drew HBb.out)
          replace HW := Aside0.mk (below_drew1 HW.out)
          generalize wr.alloc (.cells #[.int .i64 (v : Int), .int .u64 b.f1] 63 (0, 0)) = Wb at HT HBb HW ⊢
          generalize wr.heap.size = gb at HBb ⊢
          refine start_ (n := 9) (S := fun w' => w'.cell? ⟨gb, 0, none⟩ = some (.int .i64 (v : Int)) ∧ w'.cell? ⟨gb, 1, none⟩ = some (.int .u64 b.f1) ∧ w'.cell? ⟨w.heap.size, v, none⟩ = some (.int .u64 (T v))) (ds := [8]) #[false, false, false, false, false, false, false, false, false] (by kernel_rfl) rfl rfl ⟨(blk_cell HBb.out 0).trans rfl, (blk_cell HBb.out 1).trans rfl, mrow_cell HT.out v d4⟩ (fun hHeld => ?_)
          generalize World.drew Wb = V at HT HBb HW hHeld ⊢
          refine pure_ (i := 0) (N := some 20) (v := ?_) (a' := ?_) #[true, false, false, false, false, false, false, false, false] rfl rfl (by kernel_rfl) (fun _ _ _ h => h) (Or.inl ⟨by rfl, ?_⟩) ?_ ?_
          rotate_left
          · intro w'
            go_simp
            with_reducible rfl
          rotate_left
          · simp only [Act.put, List.setIfInBounds_toArray, List.set_cons_zero, List.set_cons_succ, i64_w, i32_w]
            rfl
          refine pure_ (i := 4) (N := some 24) (v := ?_) (a' := ?_) #[true, false, false, false, true, false, false, false, false] rfl rfl (by kernel_rfl) (fun _ _ _ h => h) (Or.inl ⟨by rfl, ?_⟩) ?_ ?_
          rotate_left
          · intro w'
            go_simp
            with_reducible rfl
          rotate_left
          · simp only [Act.put, List.setIfInBounds_toArray, List.set_cons_zero, List.set_cons_succ, i64_w, i32_w]
            rfl
          refine take_ (i := 1) (N := some 21) (v := ?_) (a' := ?_) #[true, true, false, false, true, false, false, false, false] rfl rfl (by kernel_rfl) (fun _ _ _ h => h) (Or.inl ⟨by rfl, ?_⟩) hHeld ?_ ?_
          rotate_left
          · rintro w' ⟨s0, s1, s2⟩
            go_simp
            with_reducible rfl
          rotate_left
          · simp only [Act.put, List.setIfInBounds_toArray, List.set_cons_zero, List.set_cons_succ, i64_w, i32_w]
            rfl
          refine pure_ (i := 2) (N := some 22) (v := ?_) (a' := ?_) #[true, true, true, false, true, false, false, false, false] rfl rfl (by kernel_rfl) (fun _ _ _ h => h) (Or.inl ⟨by rfl, ?_⟩) ?_ ?_
          rotate_left
          · intro w'
            go_simp
            with_reducible rfl
          rotate_left
          · simp only [Act.put, List.setIfInBounds_toArray, List.set_cons_zero, List.set_cons_succ, i64_w, i32_w]
            rfl
          refine take_ (i := 3) (N := some 23) (v := ?_) (a' := ?_) #[true, true, true, true, true, false, false, false, false] rfl rfl (by kernel_rfl) (fun _ _ _ h => h) (Or.inl ⟨by rfl, ?_⟩) hHeld ?_ ?_
          rotate_left
          · rintro w' ⟨s0, s1, s2⟩
            go_simp
            with_reducible rfl
          rotate_left
          · simp only [Act.put, List.setIfInBounds_toArray, List.set_cons_zero, List.set_cons_succ, i64_w, i32_w]
            rfl
          refine take_ (i := 5) (N := some 25) (v := ?_) (a' := ?_) #[true, true, true, true, true, true, false, false, false] rfl rfl (by kernel_rfl) (fun _ _ _ h => h) (Or.inl ⟨by rfl, ?_⟩) hHeld ?_ ?_
          rotate_left
          · rintro w' ⟨s0, s1, s2⟩
            go_simp
            with_reducible rfl
          rotate_left
          · simp only [Act.put, List.setIfInBounds_toArray, List.set_cons_zero, List.set_cons_succ, i64_w, i32_w]
            rfl
          refine pure_ (i := 6) (N := some 26) (v := ?_) (a' := ?_) #[true, true, true, true, true, true, true, false, false] rfl rfl (by kernel_rfl) (fun _ _ _ h => h) (Or.inl ⟨by rfl, ?_⟩) ?_ ?_
          rotate_left
          · intro w'
            go_simp
            with_reducible rfl
          rotate_left
          · simp only [Act.put, List.setIfInBounds_toArray, List.set_cons_zero, List.set_cons_succ, i64_w, i32_w]
            rfl
          refine pure_ (i := 7) (N := some 27) (v := ?_) (a' := ?_) #[true, true, true, true, true, true, true, true, false] rfl rfl (by kernel_rfl) (fun _ _ _ h => h) (Or.inl ⟨by rfl, ?_⟩) ?_ ?_
          rotate_left
          · intro w'
            go_simp
            with_reducible rfl
          rotate_left
          · simp only [Act.put, List.setIfInBounds_toArray, List.set_cons_zero, List.set_cons_succ, i64_w, i32_w]
            rfl
          refine last_ (i := 8) (N := none) #[true, true, true, true, true, true, true, true, true] rfl rfl (by kernel_rfl) (by decide) (fun K hK => ?_)
          have hct : V.cell? ⟨w.heap.size, v, none⟩ = some (.int .u64 (T v)) := mrow_cell HT.out v d4
          have hft : V.frozen? ⟨w.heap.size, v, none⟩ = false := blk_frozen HT.out v
          refine skip_ (w1 := ?_) (by rfl) rfl ?_ ?_
          rotate_left
          · go_simp
            rfl
          refine hK.out _ _ ?_
          clear hK K
          refine done_ (by kernel_rfl) ?_
          go_wp2
          go_roundw
          case rel =>
            refine ⟨i + 1, by omega, by go_num, ⟨?_, below_set HW.out (Nat.le_refl _)⟩⟩
            rw [HS.out]
            unfold orOne
            rw [Hv.out]
            exact blk_put HT.out v _ (mrow_set T v _ d4)
          case measure => simp [intOf]; omega
        · obtain rfl : i = m.length := by omega
          go_wp2
          go_roundw
          case rel => exact ⟨j + 1, by omega, by go_num, ⟨by have h := HI2.out; rw [spr_all] at h; rw [HN.out]; exact h⟩⟩
          case measure => simp [intOf]; omega
    · obtain rfl : j = L.length := by omega
      go_wp2
      go_ret
      exact ⟨rfl, HI.out.1, HI.out.2⟩
/-! Of -/
def okW (b : S60) : Prop := 1 ≤ b.f0 ∧ b.f0 ≤ 255 ∧ 0 ≤ b.f1 ∧ b.f1 < 32
instance (b : S60) : Decidable (okW b) := by unfold okW; exact inferInstance
def markOne (T : Nat → Int) (v n : Nat) : Nat → Int := upd T v (Go.bits .or .u64 (T v) (IntKind.u64.wrap (2 ^ n)))
def ofOne (T : Nat → Int) (b : S60) : Nat → Int := markOne T b.f0.toNat b.f1.toNat
def ofTo (l : List S60) (i : Nat) : Nat → Int := (l.take i).foldl ofOne zeros
theorem rd60 (m : List S60) (i : Nat) (h : i < m.length) : rd_T60 m (i : Int) = m[i] := by
  unfold rd_T60
  rw [Int.toNat_natCast, List.getD_eq_getElem?_getD, List.getElem?_eq_getElem h]
  rfl
theorem ofTo_succ (l : List S60) (i : Nat) (h : i < l.length) : ofTo l (i + 1) = ofOne (ofTo l i) (rd_T60 l (i : Int)) := by
  unfold ofTo
  rw [List.take_add_one, List.getElem?_eq_getElem h, rd60 l i h, List.foldl_append]
  rfl
theorem block_ok {b : S60} (h : okW b) : dirty_block.f b.f0 b.f1 = some true := by
  obtain ⟨h1, h2, h3, h4⟩ := h
  unfold dirty_block.f
  rw [if_pos h1, if_pos h2, if_pos h3, decide_eq_true h4]
theorem block_no {b : S60} (h : ¬ okW b) : dirty_block.f b.f0 b.f1 = some false := by
  unfold dirty_block.f
  by_cases h1 : b.f0 ≥ 1
  · rw [if_pos h1]
    by_cases h2 : b.f0 ≤ 255
    · rw [if_pos h2]
      by_cases h3 : b.f1 ≥ 0
      · rw [if_pos h3, decide_eq_false (fun h4 => h ⟨h1, h2, h3, h4⟩)]
      · rw [if_neg h3]
    · rw [if_neg h2]
  · rw [if_neg h1]
def dirty_Of.f (l : List S60) : Option (List S63 × Int) := if ∀ b ∈ l, okW b then some (bitsTo (ofTo l l.length) 256, 0) else some ([], 10)
set_option maxHeartbeats 4000000 in
set_option maxRecDepth 100000 in
theorem dirty_Of.calls (A0 : Option Addr) (c0 : Nat) (l0 : List S60) (r1 : List S63) (r2 : Int) (w : World) (hr0 : Kd.C k60 w A0 l0.length l0) (hc0 : l0.length ≤ c0) (h : dirty_Of.f l0 = some (r1, r2)) :
    Calls Try.prog 23 #[.slice A0 l0.length c0] w fun e w' => ∃ v0_ : Value, e = .returned (.tuple #[v0_, .int .i64 r2]) ∧ Kd.R k63 63 w' w.heap.size (fun _ => True) v0_ r1 ∧ Below w.heap.size w w' := by
  have HM := Aside0.mk hr0
  have H := Aside0.mk h
  clear hr0 h
  have hz := run_zero_of infoZ
  obtain ⟨Z, hZ⟩ : ∃ Z, Z = mrow zeros := ⟨_, rfl⟩
  rw [← hZ] at hz
  have h0 := Aside0.mk (below_alloc (Below.refl w.heap.size w) (.cells Z 78 (0, 0)))
  have h1 := Aside0.mk (blk_new w (.cells Z 78 (0, 0)))
  replace hZ := Aside0.mk hZ
  go_enter Try.func23, Try.ntmps23
  go_upto_region 2 with (fail)
  generalize w.alloc (.cells Z 78 (0, 0)) = w1 at h0 h1 ⊢
  have HI0 : Aside0 (SprI w w1 (ofTo l0 0)) := ⟨by have h := h1.out; rw [hZ.out] at h; have h' := h0.out; exact ⟨h, h'⟩⟩
  clear h0 h1 hz hZ
  go_wp2
  go_loopw [9] (fun i wr => ∃ j : Nat, j ≤ l0.length ∧ i = .int .i64 j ∧ Aside0 (SprI w wr (ofTo l0 j)) ∧ Aside0 (∀ b ∈ l0.take j, okW b)) (fun i _ => l0.length - (intOf i).toNat)
  case atStart => exact ⟨0, by omega, rfl, HI0, ⟨fun b hb => by simp at hb⟩⟩
  case round =>
    obtain ⟨i, hi, rfl, HI2, HK⟩ := hrel
    have hmn : l0.length ≤ 9223372036854775807 := HM.out.2.1
    by_cases hi2 : i < l0.length
    · have c3 : decide ((i : Int) < (l0.length : Int)) = true := decide_eq_true (by omega)
      have d5 : (0 : Int) ≤ (i : Int) := by omega
      have d6 : (i : Int) < (l0.length : Int) := by omega
      obtain ⟨b, hb⟩ : ∃ b, b = rd_T60 l0 (i : Int) := ⟨_, rfl⟩
      have hbm : b ∈ l0 := by rw [hb, rd60 l0 i hi2]; exact List.getElem_mem hi2
      have HS := Aside0.mk (show ofTo l0 (i + 1) = ofOne (ofTo l0 i) b from hb ▸ ofTo_succ l0 i hi2)
      have HK2 : Aside0 (okW b → ∀ b' ∈ l0.take (i + 1), okW b') := ⟨by
        intro ho b' hb'
        rw [List.take_add_one, List.getElem?_eq_getElem hi2, List.mem_append] at hb'
        rcases hb' with hb' | hb'
        · exact HK.out b' hb'
        · simp at hb'
          rw [hb', ← rd60 l0 i hi2, ← hb]
          exact ho⟩
      obtain ⟨ad, hA, x0, x1, x2⟩ := at_T60 HM.out (i : Int) d5 d6
      rw [← hb] at x0 x1 x2
      rw [Int.toNat_natCast] at x0 x1 x2
      subst hA
      replace x0 := (HI2.out.2.cell (World.block_lt_of_cell? w _ x0)).trans x0
      replace x1 := (HI2.out.2.cell (World.block_lt_of_cell? w _ x1)).trans x1
      replace x2 := (HI2.out.2.cell (World.block_lt_of_cell? w _ x2)).trans x2
      obtain ⟨T, hT⟩ : ∃ T, T = ofTo l0 i := ⟨_, rfl⟩
      rw [← hT] at HI2 HS
      clear hT hb
      have Hbm := Aside0.mk hbm
      clear hbm
      have HT := Aside0.mk (blk_alloc HI2.out.1 (.cells #[.int .i64 b.f0, .int .i64 b.f1, .string b.f2] 60 (0, 0)))
      have HBb := Aside0.mk (blk_new wr (.cells #[.int .i64 b.f0, .int .i64 b.f1, .string b.f2] 60 (0, 0)))
      have HW := Aside0.mk (below_alloc HI2.out.2 (.cells #[.int .i64 b.f0, .int .i64 b.f1, .string b.f2] 60 (0, 0)))
      go_upto_region 5 with (fail)
      generalize wr.alloc (.cells #[.int .i64 b.f0, .int .i64 b.f1, .string b.f2] 60 (0, 0)) = Wa at HT HBb HW ⊢
      generalize wr.heap.size = gb at HBb ⊢
      have xa : Wa.cell? ⟨gb, 0, none⟩ = some (.int .i64 b.f0) := (blk_cell HBb.out 0).trans rfl
      have xb : Wa.cell? ⟨gb, 1, none⟩ = some (.int .i64 b.f1) := (blk_cell HBb.out 1).trans rfl
      clear HI2 x0 x1 x2
      by_cases ho : okW b
      · go_wp2_with fail
        (with_reducible refine (dirty_block.calls b.f0 b.f1 true _ (block_ok ho)).mono ?_)
        rintro e wb ⟨rfl, ⟨nd, rfl⟩⟩
        replace HT := Aside0.mk (blk_drewN HT.out nd)
        replace HBb := Aside0.mk (blk_drewN HBb.out nd)
        replace HW := Aside0.mk (pw_below_drewN HW.out nd)
        clear xa xb
        obtain ⟨v, hv⟩ := Int.eq_ofNat_of_zero_le (show 0 ≤ b.f0 by have := ho.1; omega)
        obtain ⟨n, hn⟩ := Int.eq_ofNat_of_zero_le ho.2.2.1
        have Hvn : Aside0 (ofOne T b = markOne T v n) := ⟨by unfold ofOne; rw [hv, hn]; rfl⟩
        have HK3 := Aside0.mk (HK2.out ho)
        have d4 : v < 256 := by have := ho.2.1; omega
        have d7 : (0 : Int) ≤ (v : Int) := by omega
        have d8 : (v : Int) < 256 := by omega
        have d9 : (0 : Int) ≤ (n : Int) := by omega
        have d10 : (n : Int) ≤ 64 := by have := ho.2.2.2; omega
        rw [hv, hn] at HBb ⊢
        clear hv hn ho HK2 HK
        go_upto_region 7 with (fail)
        replace HT := Aside0.mk (blk_drew HT.out)
        replace HBb := Aside0.mk (blk_drew HBb.out)
        replace HW := Aside0.mk (below_drew1 HW.out)
        generalize Wa.drewN nd = Wb at HT HBb HW ⊢
        refine start_ (n := 10) (S := fun w' => w'.cell? ⟨gb, 0, none⟩ = some (.int .i64 (v : Int)) ∧ w'.cell? ⟨gb, 1, none⟩ = some (.int .i64 (n : Int)) ∧ w'.cell? ⟨w.heap.size, v, none⟩ = some (.int .u64 (T v))) (ds := [9]) #[false, false, false, false, false, false, false, false, false, false] (by kernel_rfl) rfl rfl ⟨(blk_cell HBb.out 0).trans rfl, (blk_cell HBb.out 1).trans rfl, mrow_cell HT.out v d4⟩ (fun hHeld => ?_)
        generalize World.drew Wb = V at HT HBb HW hHeld ⊢
        refine pure_ (i := 0) (N := some 19) (v := ?_) (a' := ?_) #[true, false, false, false, false, false, false, false, false, false] rfl rfl (by kernel_rfl) (fun _ _ _ h => h) (Or.inl ⟨by rfl, ?_⟩) ?_ ?_
        rotate_left
        · intro w'
          go_simp
          with_reducible rfl
        rotate_left
        · simp only [Act.put, List.setIfInBounds_toArray, List.set_cons_zero, List.set_cons_succ, i64_w, i32_w]
          rfl
        refine pure_ (i := 4) (N := some 23) (v := ?_) (a' := ?_) #[true, false, false, false, true, false, false, false, false, false] rfl rfl (by kernel_rfl) (fun _ _ _ h => h) (Or.inl ⟨by rfl, ?_⟩) ?_ ?_
        rotate_left
        · intro w'
          go_simp
          with_reducible rfl
        rotate_left
        · simp only [Act.put, List.setIfInBounds_toArray, List.set_cons_zero, List.set_cons_succ, i64_w, i32_w]
          rfl
        refine take_ (i := 1) (N := some 20) (v := ?_) (a' := ?_) #[true, true, false, false, true, false, false, false, false, false] rfl rfl (by kernel_rfl) (fun _ _ _ h => h) (Or.inl ⟨by rfl, ?_⟩) hHeld ?_ ?_
        rotate_left
        · rintro w' ⟨s0, s1, s2⟩
          go_simp
          with_reducible rfl
        rotate_left
        · simp only [Act.put, List.setIfInBounds_toArray, List.set_cons_zero, List.set_cons_succ, i64_w, i32_w]
          rfl
        refine pure_ (i := 2) (N := some 21) (v := ?_) (a' := ?_) #[true, true, true, false, true, false, false, false, false, false] rfl rfl (by kernel_rfl) (fun _ _ _ h => h) (Or.inl ⟨by rfl, ?_⟩) ?_ ?_
        rotate_left
        · intro w'
          go_simp
          with_reducible rfl
        rotate_left
        · simp only [Act.put, List.setIfInBounds_toArray, List.set_cons_zero, List.set_cons_succ, i64_w, i32_w]
          rfl
        refine take_ (i := 3) (N := some 22) (v := ?_) (a' := ?_) #[true, true, true, true, true, false, false, false, false, false] rfl rfl (by kernel_rfl) (fun _ _ _ h => h) (Or.inl ⟨by rfl, ?_⟩) hHeld ?_ ?_
        rotate_left
        · rintro w' ⟨s0, s1, s2⟩
          go_simp
          with_reducible rfl
        rotate_left
        · simp only [Act.put, List.setIfInBounds_toArray, List.set_cons_zero, List.set_cons_succ, i64_w, i32_w]
          rfl
        refine take_ (i := 5) (N := some 24) (v := ?_) (a' := ?_) #[true, true, true, true, true, true, false, false, false, false] rfl rfl (by kernel_rfl) (fun _ _ _ h => h) (Or.inl ⟨by rfl, ?_⟩) hHeld ?_ ?_
        rotate_left
        · rintro w' ⟨s0, s1, s2⟩
          go_simp
          with_reducible rfl
        rotate_left
        · simp only [Act.put, List.setIfInBounds_toArray, List.set_cons_zero, List.set_cons_succ, i64_w, i32_w]
          rfl
        refine pure_ (i := 6) (N := some 25) (v := ?_) (a' := ?_) #[true, true, true, true, true, true, true, false, false, false] rfl rfl (by kernel_rfl) (fun _ _ _ h => h) (Or.inl ⟨by rfl, ?_⟩) ?_ ?_
        rotate_left
        · intro w'
          go_simp
          with_reducible rfl
        rotate_left
        · simp only [Act.put, List.setIfInBounds_toArray, List.set_cons_zero, List.set_cons_succ, i64_w, i32_w]
          rfl
        refine pure_ (i := 7) (N := some 26) (v := ?_) (a' := ?_) #[true, true, true, true, true, true, true, true, false, false] rfl rfl (by kernel_rfl) (fun _ _ _ h => h) (Or.inl ⟨by rfl, ?_⟩) ?_ ?_
        rotate_left
        · intro w'
          go_simp
          with_reducible rfl
        rotate_left
        · simp only [Act.put, List.setIfInBounds_toArray, List.set_cons_zero, List.set_cons_succ, i64_w, i32_w]
          rfl
        refine pure_ (i := 8) (N := some 27) (v := ?_) (a' := ?_) #[true, true, true, true, true, true, true, true, true, false] rfl rfl (by kernel_rfl) (fun _ _ _ h => h) (Or.inl ⟨by rfl, ?_⟩) ?_ ?_
        rotate_left
        · intro w'
          go_simp
          with_reducible rfl
        rotate_left
        · simp only [Act.put, List.setIfInBounds_toArray, List.set_cons_zero, List.set_cons_succ, i64_w, i32_w]
          rfl
        refine last_ (i := 9) (N := none) #[true, true, true, true, true, true, true, true, true, true] rfl rfl (by kernel_rfl) (by decide) (fun K hK => ?_)
        have hct : V.cell? ⟨w.heap.size, v, none⟩ = some (.int .u64 (T v)) := mrow_cell HT.out v d4
        have hft : V.frozen? ⟨w.heap.size, v, none⟩ = false := blk_frozen HT.out v
        refine skip_ (w1 := ?_) (by rfl) rfl ?_ ?_
        rotate_left
        · go_simp
          rfl
        refine hK.out _ _ ?_
        clear hK K
        refine done_ (by kernel_rfl) ?_
        go_wp2
        go_roundw
        case rel =>
          refine ⟨i + 1, by omega, by go_num, ⟨?_, below_set HW.out (Nat.le_refl _)⟩, HK3⟩
          rw [HS.out, Hvn.out]
          exact blk_put HT.out v _ (mrow_set T v _ d4)
        case measure => simp [intOf]; omega
      · go_wp2_with fail
        (with_reducible refine (dirty_block.calls b.f0 b.f1 false _ (block_no ho)).mono ?_)
        rintro e wb ⟨rfl, ⟨nd, rfl⟩⟩
        replace HW := Aside0.mk (pw_below_drewN HW.out nd)
        have hh := H.out
        unfold dirty_Of.f at hh
        rw [if_neg (fun hall => ho (hall b Hbm.out))] at hh
        simp only [Option.some.injEq, Prod.mk.injEq] at hh
        obtain ⟨rfl, rfl⟩ := hh
        go_wp2
        go_ret2
        exact ⟨_, rfl, Kd.R_nil _ _ _ _ _, HW.out⟩
    · obtain rfl : i = l0.length := by omega
      have hh := H.out
      unfold dirty_Of.f at hh
      rw [if_pos (by have h := HK.out; rw [List.take_length] at h; exact h)] at hh
      simp only [Option.some.injEq, Prod.mk.injEq] at hh
      obtain ⟨rfl, rfl⟩ := hh
      clear H
      have HG := Aside0.mk HI2.out.1
      go_wp2_with fail
      (with_reducible refine (masks_bits.calls _ _ _ HG.out).mono ?_)
      rintro e w2 ⟨v0, rfl, hr, hb⟩
      have HR := Aside0.mk (Kd.R_lower hr HI2.out.2.size)
      have HW := Aside0.mk (below_step HI2.out.2 hb)
      clear hr hb
      go_wp2
      go_ret2
      exact ⟨_, rfl, HR.out, HW.out⟩
/-! Join -/
instance (m : List S63) : Decidable (inB m) := by unfold inB; exact inferInstance
/-! Has, Set -/
def okB (a b : Int) : Prop := 1 ≤ a ∧ a ≤ 255 ∧ 0 ≤ b ∧ b < 32
instance (a b : Int) : Decidable (okB a b) := by unfold okB; exact inferInstance
theorem block_eq (a b : Int) : dirty_block.f a b = some (decide (okB a b)) := by
  unfold dirty_block.f
  by_cases h1 : a ≥ 1
  · rw [if_pos h1]
    by_cases h2 : a ≤ 255
    · rw [if_pos h2]
      by_cases h3 : b ≥ 0
      · rw [if_pos h3]
        congr 1
        rw [decide_eq_decide]
        exact ⟨fun h => ⟨h1, h2, h3, h⟩, fun h => h.2.2.2⟩
      · rw [if_neg h3, decide_eq_false (fun h => h3 h.2.2.1)]
    · rw [if_neg h2, decide_eq_false (fun h => h2 h.2.1)]
  · rw [if_neg h1, decide_eq_false (fun h => h1 h.1)]


/-! ### counterfoillaw10_awake: function 9 -/
def counterfoillaw10_awake.f  : Option (Bool) := (dirty_Of.f (([(⟨2, 0, (⟨#[]⟩ : ByteArray)⟩ : S60), (⟨1, 3, (⟨#[]⟩ : ByteArray)⟩ : S60)] : List (S60)))).bind fun bt104 => (if (bt104.1.length : Int) = 2 then (if 0 < (bt104.1.length : Int) then (if (((rd_T63 bt104.1 0).f0) == 1 && (((rd_T63 bt104.1 0).f1) == 8)) = true then (if 1 < (bt104.1.length : Int) then (if (((rd_T63 bt104.1 1).f0) == 2 && (((rd_T63 bt104.1 1).f1) == 1)) = true then (some (bt104.2 == 0)) else (some false)) else (none)) else (some false)) else (none)) else (some false))
set_option maxHeartbeats 8000000 in
set_option maxRecDepth 100000 in
theorem counterfoillaw10_awake.calls  (r : Bool) (w : World) (h : counterfoillaw10_awake.f  = some r) :
    Calls Try.prog 9 #[] w fun e w' => e = .returned (.bool r) ∧ Below w.heap.size w w' := by
  have hu60 := Try.underlying60
  have hu63 := Try.underlying63
  have HB := Aside0.mk (Below.refl w.heap.size w)
  have H : ((dirty_Of.f (([(⟨2, 0, (⟨#[]⟩ : ByteArray)⟩ : S60), (⟨1, 3, (⟨#[]⟩ : ByteArray)⟩ : S60)] : List (S60)))).bind fun bt104 => (if (bt104.1.length : Int) = 2 then (if 0 < (bt104.1.length : Int) then (if (((rd_T63 bt104.1 0).f0) == 1 && (((rd_T63 bt104.1 0).f1) == 8)) = true then (if 1 < (bt104.1.length : Int) then (if (((rd_T63 bt104.1 1).f0) == 2 && (((rd_T63 bt104.1 1).f1) == 1)) = true then (some (bt104.2 == 0)) else (some false)) else (none)) else (some false)) else (none)) else (some false))) = some r := h
  clear h
  obtain ⟨y101, hy101⟩ : ∃ y_ : List (S60), y_ = (([(⟨2, 0, (⟨#[]⟩ : ByteArray)⟩ : S60), (⟨1, 3, (⟨#[]⟩ : ByteArray)⟩ : S60)] : List (S60))) := ⟨_, rfl⟩
  replace H : ((dirty_Of.f y101).bind fun bt104 => (if (bt104.1.length : Int) = 2 then (if 0 < (bt104.1.length : Int) then (if (((rd_T63 bt104.1 0).f0) == 1 && (((rd_T63 bt104.1 0).f1) == 8)) = true then (if 1 < (bt104.1.length : Int) then (if (((rd_T63 bt104.1 1).f0) == 2 && (((rd_T63 bt104.1 1).f1) == 1)) = true then (some (bt104.2 == 0)) else (some false)) else (none)) else (some false)) else (none)) else (some false))) = some r := by first | (rw [hy101]; with_reducible exact H) | (have H2_ := (Option.bind_some _ _).symm.trans H; rw [hy101]; with_reducible exact H2_) | (have H2_ := (Option.bind_some _ _).symm.trans H; with_reducible exact H2_) | with_reducible exact H | (rw [hy101]; exact H) | exact H
  have Ny101 := Aside0.mk hy101
  clear hy101
  replace H := Option.bind_eq_some_iff.mp H
  obtain ⟨⟨t104, t105⟩, A10, H⟩ := H
  replace H : (if (t104.length : Int) = 2 then (if 0 < (t104.length : Int) then (if (((rd_T63 t104 0).f0) == 1 && (((rd_T63 t104 0).f1) == 8)) = true then (if 1 < (t104.length : Int) then (if (((rd_T63 t104 1).f0) == 2 && (((rd_T63 t104 1).f1) == 1)) = true then (some (t105 == 0)) else (some false)) else (none)) else (some false)) else (none)) else (some false)) = some r := H
  have A1 := Aside0.mk A10
  clear A10
  by_cases c2 : (t104.length : Int) = 2
  · rw [if_pos c2] at H
    have c2b0 : ((t104.length : Int) == 2) = true := beq_iff_eq.mpr c2
    have c2b1 : ((t104.length : Int) != 2) = false := bne_eq_false_iff_eq.mpr c2
    clear c2
    by_cases c3 : 0 < (t104.length : Int)
    · rw [if_pos c3] at H
      have c3b0 : decide (0 < (t104.length : Int)) = true := decide_eq_true c3
      have c3b1 : decide (0 < t104.length) = true := decide_eq_true (by omega)
      clear c3
      by_cases c4 : (((rd_T63 t104 0).f0) == 1 && (((rd_T63 t104 0).f1) == 8)) = true
      · rw [if_pos c4] at H
        have c4b0 : (((rd_T63 t104 0).f0) == 1 && (((rd_T63 t104 0).f1) == 8)) = true := c4
        (try (have c4b1 : decide (((rd_T63 t104 0).f0) = 1 && (((rd_T63 t104 0).f1) == 8)) = true := by simpa using c4))
        (try (have c4b2 : (((rd_T63 t104 0).f0) == 1 && (((rd_T63 t104 0).f1) == 8)) = true := by simpa using c4))
        clear c4
        by_cases c5 : 1 < (t104.length : Int)
        · rw [if_pos c5] at H
          have c5b0 : decide (1 < (t104.length : Int)) = true := decide_eq_true c5
          have c5b1 : decide (1 < t104.length) = true := decide_eq_true (by omega)
          clear c5
          by_cases c6 : (((rd_T63 t104 1).f0) == 2 && (((rd_T63 t104 1).f1) == 1)) = true
          · rw [if_pos c6] at H
            have c6b0 : (((rd_T63 t104 1).f0) == 2 && (((rd_T63 t104 1).f1) == 1)) = true := c6
            (try (have c6b1 : decide (((rd_T63 t104 1).f0) = 2 && (((rd_T63 t104 1).f1) == 1)) = true := by simpa using c6))
            (try (have c6b2 : (((rd_T63 t104 1).f0) == 2 && (((rd_T63 t104 1).f1) == 1)) = true := by simpa using c6))
            clear c6
            obtain rfl := Option.some.inj H
            go_enter Try.func9, Try.ntmps9
            go_wp2_with (first | ((with_reducible refine gate_dst (N := 6) rfl ?_); refine Kd.R_lit k60 _ 60 ?hg (N := 6) ?hd (xs := ([(⟨2, 0, (⟨#[]⟩ : ByteArray)⟩ : S60), (⟨1, 3, (⟨#[]⟩ : ByteArray)⟩ : S60)] : List (S60))) (inner := [.int .i64 2, .int .i64 0, .string (⟨#[]⟩ : ByteArray), .int .i64 1, .int .i64 3, .string (⟨#[]⟩ : ByteArray)]) (ok := fun _ => True) (okp := fun _ => True) ?hr ?hp (fun _ hk => hk) trivial (Below.refl _ _) (Nat.le_refl _) (by simp) ?_; (case hd => rfl); (case hg => rfl); (case hr => first | (go_simp; done) | (go_simp; rfl) | (go_simp; simp only [w64m])); (case hp => exact (Reps.c3 (show Kd.M k60 _ _ _ (⟨2, 0, (⟨#[]⟩ : ByteArray)⟩ : S60) [.int .i64 2, .int .i64 0, .string (⟨#[]⟩ : ByteArray)] from (k60_mkM _ _ _ (⟨2, 0, (⟨#[]⟩ : ByteArray)⟩ : S60) )) (Reps.c3 (show Kd.M k60 _ _ _ (⟨1, 3, (⟨#[]⟩ : ByteArray)⟩ : S60) [.int .i64 1, .int .i64 3, .string (⟨#[]⟩ : ByteArray)] from (k60_mkM _ _ _ (⟨1, 3, (⟨#[]⟩ : ByteArray)⟩ : S60) )) (Reps.none _ _)))); intro v102 w7 ho8 hb hg_ hnew_; clear hg_ hnew_; (first | rw [← Ny101.out] at ho8 | (simp only [Int.reduceToNat] at ho8; rw [← Ny101.out] at ho8)); have n0_ := Aside0.mk (Kd.R_lower ho8 (below_size (by repeat (first | (with_reducible first | exact HB.out | apply below_alloc | apply pw_below_drewN | apply below_drew1) | exact HB.out)))); have n1_ := Aside0.mk (below_step (by repeat (first | (with_reducible first | exact HB.out | apply below_alloc | apply pw_below_drewN | apply below_drew1) | exact HB.out)) hb); clear HB; have HO103 := n0_; have HB := n1_; clear n0_ n1_; clear hb ho8; obtain ⟨Ao9, co9, eo9⟩ := Kd.R_slice HO103.out; subst eo9) | ((with_reducible refine gate_callee (f := 23) rfl ?_); refine goesL_ (some 7) rfl rfl Try.func23 (by kernel_rfl) rfl #[.slice Ao9 y101.length co9] rfl (by (try simp only [List.map_toArray, List.map_cons, List.map_nil]); first | done | rfl | (simp only [List.length_drop, List.length_take]; rfl)) ?_; (with_reducible refine (dirty_Of.calls _ _ y101 t104 t105 _ ?side1 ?side2 A1.out).mono ?_); (case side1 => repeat (first | exact (Kd.R_reads' HO103.out).2.2 | (with_reducible refine Kd.C_alloc ?_ _) | (with_reducible refine Kd.C_drewN ?_ _) | (with_reducible refine Kd.C_drew ?_))); (case side2 => exact (Kd.R_reads' HO103.out).2.1); rintro e w10 ⟨v106, rfl, ho0, hb⟩; refine ⟨_, rfl, ?_⟩; have n0_ := Aside0.mk (Kd.R_below (by (with_reducible repeat (first | apply Kd.R_alloc | apply Kd.R_drewN | apply Kd.R_drew)); exact HO103.out) hb); have n1_ := Aside0.mk (Kd.R_lower ho0 (below_size (by repeat (first | (with_reducible first | exact HB.out | apply below_alloc | apply pw_below_drewN | apply below_drew1) | exact HB.out)))); have n2_ := Aside0.mk (below_step (by repeat (first | (with_reducible first | exact HB.out | apply below_alloc | apply pw_below_drewN | apply below_drew1) | exact HB.out)) hb); clear HO103; clear HB; have HO103 := n0_; have HO107 := n1_; have HB := n2_; clear n0_ n1_ n2_; (try clear hb); (try clear hb2); (try clear hk); (try clear hi); (try clear ho0); obtain ⟨Ao11, co11, eo11⟩ := Kd.R_slice HO107.out; subst eo11; have p108 : 0 ≤ (0 : Int) := (by omega); have q108 : 0 < (t104.length : Int) := of_decide_eq_true (by first | (with_reducible assumption) | assumption); obtain ⟨ad108, e108, hx108_0, hx108_1⟩ := at_T63 (Kd.R_reads' HO107.out).2.2 0 p108 q108; cases e108; have qi108 : (0 < t104.length) = True := eq_true (by omega); (try rw [show ((0 : Int)).toNat = 0 from rfl] at hx108_0); (try rw [show 0 * 2 = 0 from rfl] at hx108_0); (try rw [Addr.add_zero'] at hx108_0); (try rw [show ((0 : Int)).toNat = 0 from rfl] at hx108_1); (try rw [show 0 * 2 = 0 from rfl] at hx108_1); (try rw [Addr.add_zero'] at hx108_1); replace p108 := eq_true p108; replace q108 := eq_true q108; have p109 : 0 ≤ (1 : Int) := (by omega); have q109 : 1 < (t104.length : Int) := of_decide_eq_true (by first | (with_reducible assumption) | assumption); obtain ⟨ad109, e109, hx109_0, hx109_1⟩ := at_T63 (Kd.R_reads' HO107.out).2.2 1 p109 q109; obtain rfl : ad108 = ad109 := (by injection e109); (try simp only [show (1 : Int).toNat = 1 from rfl, Nat.reduceMul, Nat.reduceEqDiff, Go.Addr.add, ↓reduceIte] at hx109_0); (try simp only [show (1 : Int).toNat = 1 from rfl, Nat.reduceMul, Nat.reduceEqDiff, Go.Addr.add, ↓reduceIte] at hx109_1); have qi109 : (1 < t104.length) = True := eq_true (by omega); (try rw [show ((1 : Int)).toNat = 1 from rfl] at hx109_0); (try rw [show 1 * 2 = 2 from rfl] at hx109_0); (try rw [show ((1 : Int)).toNat = 1 from rfl] at hx109_1); (try rw [show 1 * 2 = 2 from rfl] at hx109_1); replace p109 := eq_true p109; replace q109 := eq_true q109))
            go_ret
            exact ⟨by first | rfl | (simp [errW_none, errW_some] <;> rfl) | (simp [*, errW_none, errW_some] <;> rfl), by repeat (first | (with_reducible first | exact HB.out | apply below_alloc | apply pw_below_drewN | apply below_drew1) | exact HB.out)⟩
          · rw [if_neg c6] at H
            have c6b0 : (((rd_T63 t104 1).f0) == 2 && (((rd_T63 t104 1).f1) == 1)) = false := by simpa using c6
            (try (have c6b1 : decide (((rd_T63 t104 1).f0) = 2 && (((rd_T63 t104 1).f1) == 1)) = false := by simpa using c6))
            (try (have c6b2 : (((rd_T63 t104 1).f0) == 2 && (((rd_T63 t104 1).f1) == 1)) = false := by simpa using c6))
            (try (have c6b3 : ¬ (((rd_T63 t104 1).f0) = 2 && (((rd_T63 t104 1).f1) == 1)) := by simpa using c6))
            clear c6
            obtain rfl := Option.some.inj H
            go_enter Try.func9, Try.ntmps9
            go_wp2_with (first | ((with_reducible refine gate_dst (N := 6) rfl ?_); refine Kd.R_lit k60 _ 60 ?hg (N := 6) ?hd (xs := ([(⟨2, 0, (⟨#[]⟩ : ByteArray)⟩ : S60), (⟨1, 3, (⟨#[]⟩ : ByteArray)⟩ : S60)] : List (S60))) (inner := [.int .i64 2, .int .i64 0, .string (⟨#[]⟩ : ByteArray), .int .i64 1, .int .i64 3, .string (⟨#[]⟩ : ByteArray)]) (ok := fun _ => True) (okp := fun _ => True) ?hr ?hp (fun _ hk => hk) trivial (Below.refl _ _) (Nat.le_refl _) (by simp) ?_; (case hd => rfl); (case hg => rfl); (case hr => first | (go_simp; done) | (go_simp; rfl) | (go_simp; simp only [w64m])); (case hp => exact (Reps.c3 (show Kd.M k60 _ _ _ (⟨2, 0, (⟨#[]⟩ : ByteArray)⟩ : S60) [.int .i64 2, .int .i64 0, .string (⟨#[]⟩ : ByteArray)] from (k60_mkM _ _ _ (⟨2, 0, (⟨#[]⟩ : ByteArray)⟩ : S60) )) (Reps.c3 (show Kd.M k60 _ _ _ (⟨1, 3, (⟨#[]⟩ : ByteArray)⟩ : S60) [.int .i64 1, .int .i64 3, .string (⟨#[]⟩ : ByteArray)] from (k60_mkM _ _ _ (⟨1, 3, (⟨#[]⟩ : ByteArray)⟩ : S60) )) (Reps.none _ _)))); intro v102 w12 ho13 hb hg_ hnew_; clear hg_ hnew_; (first | rw [← Ny101.out] at ho13 | (simp only [Int.reduceToNat] at ho13; rw [← Ny101.out] at ho13)); have n0_ := Aside0.mk (Kd.R_lower ho13 (below_size (by repeat (first | (with_reducible first | exact HB.out | apply below_alloc | apply pw_below_drewN | apply below_drew1) | exact HB.out)))); have n1_ := Aside0.mk (below_step (by repeat (first | (with_reducible first | exact HB.out | apply below_alloc | apply pw_below_drewN | apply below_drew1) | exact HB.out)) hb); clear HB; have HO103 := n0_; have HB := n1_; clear n0_ n1_; clear hb ho13; obtain ⟨Ao14, co14, eo14⟩ := Kd.R_slice HO103.out; subst eo14) | ((with_reducible refine gate_callee (f := 23) rfl ?_); refine goesL_ (some 7) rfl rfl Try.func23 (by kernel_rfl) rfl #[.slice Ao14 y101.length co14] rfl (by (try simp only [List.map_toArray, List.map_cons, List.map_nil]); first | done | rfl | (simp only [List.length_drop, List.length_take]; rfl)) ?_; (with_reducible refine (dirty_Of.calls _ _ y101 t104 t105 _ ?side1 ?side2 A1.out).mono ?_); (case side1 => repeat (first | exact (Kd.R_reads' HO103.out).2.2 | (with_reducible refine Kd.C_alloc ?_ _) | (with_reducible refine Kd.C_drewN ?_ _) | (with_reducible refine Kd.C_drew ?_))); (case side2 => exact (Kd.R_reads' HO103.out).2.1); rintro e w15 ⟨v106, rfl, ho0, hb⟩; refine ⟨_, rfl, ?_⟩; have n0_ := Aside0.mk (Kd.R_below (by (with_reducible repeat (first | apply Kd.R_alloc | apply Kd.R_drewN | apply Kd.R_drew)); exact HO103.out) hb); have n1_ := Aside0.mk (Kd.R_lower ho0 (below_size (by repeat (first | (with_reducible first | exact HB.out | apply below_alloc | apply pw_below_drewN | apply below_drew1) | exact HB.out)))); have n2_ := Aside0.mk (below_step (by repeat (first | (with_reducible first | exact HB.out | apply below_alloc | apply pw_below_drewN | apply below_drew1) | exact HB.out)) hb); clear HO103; clear HB; have HO103 := n0_; have HO107 := n1_; have HB := n2_; clear n0_ n1_ n2_; (try clear hb); (try clear hb2); (try clear hk); (try clear hi); (try clear ho0); obtain ⟨Ao16, co16, eo16⟩ := Kd.R_slice HO107.out; subst eo16; have p108 : 0 ≤ (0 : Int) := (by omega); have q108 : 0 < (t104.length : Int) := of_decide_eq_true (by first | (with_reducible assumption) | assumption); obtain ⟨ad108, e108, hx108_0, hx108_1⟩ := at_T63 (Kd.R_reads' HO107.out).2.2 0 p108 q108; cases e108; have qi108 : (0 < t104.length) = True := eq_true (by omega); (try rw [show ((0 : Int)).toNat = 0 from rfl] at hx108_0); (try rw [show 0 * 2 = 0 from rfl] at hx108_0); (try rw [Addr.add_zero'] at hx108_0); (try rw [show ((0 : Int)).toNat = 0 from rfl] at hx108_1); (try rw [show 0 * 2 = 0 from rfl] at hx108_1); (try rw [Addr.add_zero'] at hx108_1); replace p108 := eq_true p108; replace q108 := eq_true q108; have p109 : 0 ≤ (1 : Int) := (by omega); have q109 : 1 < (t104.length : Int) := of_decide_eq_true (by first | (with_reducible assumption) | assumption); obtain ⟨ad109, e109, hx109_0, hx109_1⟩ := at_T63 (Kd.R_reads' HO107.out).2.2 1 p109 q109; obtain rfl : ad108 = ad109 := (by injection e109); (try simp only [show (1 : Int).toNat = 1 from rfl, Nat.reduceMul, Nat.reduceEqDiff, Go.Addr.add, ↓reduceIte] at hx109_0); (try simp only [show (1 : Int).toNat = 1 from rfl, Nat.reduceMul, Nat.reduceEqDiff, Go.Addr.add, ↓reduceIte] at hx109_1); have qi109 : (1 < t104.length) = True := eq_true (by omega); (try rw [show ((1 : Int)).toNat = 1 from rfl] at hx109_0); (try rw [show 1 * 2 = 2 from rfl] at hx109_0); (try rw [show ((1 : Int)).toNat = 1 from rfl] at hx109_1); (try rw [show 1 * 2 = 2 from rfl] at hx109_1); replace p109 := eq_true p109; replace q109 := eq_true q109))
            go_ret
            exact ⟨by first | rfl | (simp [errW_none, errW_some] <;> rfl) | (simp [*, errW_none, errW_some] <;> rfl), by repeat (first | (with_reducible first | exact HB.out | apply below_alloc | apply pw_below_drewN | apply below_drew1) | exact HB.out)⟩
        · rw [if_neg c5] at H
          exact absurd H (by simp)
      · rw [if_neg c4] at H
        have c4b0 : (((rd_T63 t104 0).f0) == 1 && (((rd_T63 t104 0).f1) == 8)) = false := by simpa using c4
        (try (have c4b1 : decide (((rd_T63 t104 0).f0) = 1 && (((rd_T63 t104 0).f1) == 8)) = false := by simpa using c4))
        (try (have c4b2 : (((rd_T63 t104 0).f0) == 1 && (((rd_T63 t104 0).f1) == 8)) = false := by simpa using c4))
        (try (have c4b3 : ¬ (((rd_T63 t104 0).f0) = 1 && (((rd_T63 t104 0).f1) == 8)) := by simpa using c4))
        clear c4
        obtain rfl := Option.some.inj H
        go_enter Try.func9, Try.ntmps9
        go_wp2_with (first | ((with_reducible refine gate_dst (N := 6) rfl ?_); refine Kd.R_lit k60 _ 60 ?hg (N := 6) ?hd (xs := ([(⟨2, 0, (⟨#[]⟩ : ByteArray)⟩ : S60), (⟨1, 3, (⟨#[]⟩ : ByteArray)⟩ : S60)] : List (S60))) (inner := [.int .i64 2, .int .i64 0, .string (⟨#[]⟩ : ByteArray), .int .i64 1, .int .i64 3, .string (⟨#[]⟩ : ByteArray)]) (ok := fun _ => True) (okp := fun _ => True) ?hr ?hp (fun _ hk => hk) trivial (Below.refl _ _) (Nat.le_refl _) (by simp) ?_; (case hd => rfl); (case hg => rfl); (case hr => first | (go_simp; done) | (go_simp; rfl) | (go_simp; simp only [w64m])); (case hp => exact (Reps.c3 (show Kd.M k60 _ _ _ (⟨2, 0, (⟨#[]⟩ : ByteArray)⟩ : S60) [.int .i64 2, .int .i64 0, .string (⟨#[]⟩ : ByteArray)] from (k60_mkM _ _ _ (⟨2, 0, (⟨#[]⟩ : ByteArray)⟩ : S60) )) (Reps.c3 (show Kd.M k60 _ _ _ (⟨1, 3, (⟨#[]⟩ : ByteArray)⟩ : S60) [.int .i64 1, .int .i64 3, .string (⟨#[]⟩ : ByteArray)] from (k60_mkM _ _ _ (⟨1, 3, (⟨#[]⟩ : ByteArray)⟩ : S60) )) (Reps.none _ _)))); intro v102 w17 ho18 hb hg_ hnew_; clear hg_ hnew_; (first | rw [← Ny101.out] at ho18 | (simp only [Int.reduceToNat] at ho18; rw [← Ny101.out] at ho18)); have n0_ := Aside0.mk (Kd.R_lower ho18 (below_size (by repeat (first | (with_reducible first | exact HB.out | apply below_alloc | apply pw_below_drewN | apply below_drew1) | exact HB.out)))); have n1_ := Aside0.mk (below_step (by repeat (first | (with_reducible first | exact HB.out | apply below_alloc | apply pw_below_drewN | apply below_drew1) | exact HB.out)) hb); clear HB; have HO103 := n0_; have HB := n1_; clear n0_ n1_; clear hb ho18; obtain ⟨Ao19, co19, eo19⟩ := Kd.R_slice HO103.out; subst eo19) | ((with_reducible refine gate_callee (f := 23) rfl ?_); refine goesL_ (some 7) rfl rfl Try.func23 (by kernel_rfl) rfl #[.slice Ao19 y101.length co19] rfl (by (try simp only [List.map_toArray, List.map_cons, List.map_nil]); first | done | rfl | (simp only [List.length_drop, List.length_take]; rfl)) ?_; (with_reducible refine (dirty_Of.calls _ _ y101 t104 t105 _ ?side1 ?side2 A1.out).mono ?_); (case side1 => repeat (first | exact (Kd.R_reads' HO103.out).2.2 | (with_reducible refine Kd.C_alloc ?_ _) | (with_reducible refine Kd.C_drewN ?_ _) | (with_reducible refine Kd.C_drew ?_))); (case side2 => exact (Kd.R_reads' HO103.out).2.1); rintro e w20 ⟨v106, rfl, ho0, hb⟩; refine ⟨_, rfl, ?_⟩; have n0_ := Aside0.mk (Kd.R_below (by (with_reducible repeat (first | apply Kd.R_alloc | apply Kd.R_drewN | apply Kd.R_drew)); exact HO103.out) hb); have n1_ := Aside0.mk (Kd.R_lower ho0 (below_size (by repeat (first | (with_reducible first | exact HB.out | apply below_alloc | apply pw_below_drewN | apply below_drew1) | exact HB.out)))); have n2_ := Aside0.mk (below_step (by repeat (first | (with_reducible first | exact HB.out | apply below_alloc | apply pw_below_drewN | apply below_drew1) | exact HB.out)) hb); clear HO103; clear HB; have HO103 := n0_; have HO107 := n1_; have HB := n2_; clear n0_ n1_ n2_; (try clear hb); (try clear hb2); (try clear hk); (try clear hi); (try clear ho0); obtain ⟨Ao21, co21, eo21⟩ := Kd.R_slice HO107.out; subst eo21; have p108 : 0 ≤ (0 : Int) := (by omega); have q108 : 0 < (t104.length : Int) := of_decide_eq_true (by first | (with_reducible assumption) | assumption); obtain ⟨ad108, e108, hx108_0, hx108_1⟩ := at_T63 (Kd.R_reads' HO107.out).2.2 0 p108 q108; cases e108; have qi108 : (0 < t104.length) = True := eq_true (by omega); (try rw [show ((0 : Int)).toNat = 0 from rfl] at hx108_0); (try rw [show 0 * 2 = 0 from rfl] at hx108_0); (try rw [Addr.add_zero'] at hx108_0); (try rw [show ((0 : Int)).toNat = 0 from rfl] at hx108_1); (try rw [show 0 * 2 = 0 from rfl] at hx108_1); (try rw [Addr.add_zero'] at hx108_1); replace p108 := eq_true p108; replace q108 := eq_true q108))
        go_ret
        exact ⟨by first | rfl | (simp [errW_none, errW_some] <;> rfl) | (simp [*, errW_none, errW_some] <;> rfl), by repeat (first | (with_reducible first | exact HB.out | apply below_alloc | apply pw_below_drewN | apply below_drew1) | exact HB.out)⟩
    · rw [if_neg c3] at H
      exact absurd H (by simp)
  · rw [if_neg c2] at H
    have c2b0 : ((t104.length : Int) == 2) = false := beq_eq_false_iff_ne.mpr c2
    have c2b1 : ((t104.length : Int) != 2) = true := bne_iff_ne.mpr c2
    obtain rfl := Option.some.inj H
    go_enter Try.func9, Try.ntmps9
    go_wp2_with (first | ((with_reducible refine gate_dst (N := 6) rfl ?_); refine Kd.R_lit k60 _ 60 ?hg (N := 6) ?hd (xs := ([(⟨2, 0, (⟨#[]⟩ : ByteArray)⟩ : S60), (⟨1, 3, (⟨#[]⟩ : ByteArray)⟩ : S60)] : List (S60))) (inner := [.int .i64 2, .int .i64 0, .string (⟨#[]⟩ : ByteArray), .int .i64 1, .int .i64 3, .string (⟨#[]⟩ : ByteArray)]) (ok := fun _ => True) (okp := fun _ => True) ?hr ?hp (fun _ hk => hk) trivial (Below.refl _ _) (Nat.le_refl _) (by simp) ?_; (case hd => rfl); (case hg => rfl); (case hr => first | (go_simp; done) | (go_simp; rfl) | (go_simp; simp only [w64m])); (case hp => exact (Reps.c3 (show Kd.M k60 _ _ _ (⟨2, 0, (⟨#[]⟩ : ByteArray)⟩ : S60) [.int .i64 2, .int .i64 0, .string (⟨#[]⟩ : ByteArray)] from (k60_mkM _ _ _ (⟨2, 0, (⟨#[]⟩ : ByteArray)⟩ : S60) )) (Reps.c3 (show Kd.M k60 _ _ _ (⟨1, 3, (⟨#[]⟩ : ByteArray)⟩ : S60) [.int .i64 1, .int .i64 3, .string (⟨#[]⟩ : ByteArray)] from (k60_mkM _ _ _ (⟨1, 3, (⟨#[]⟩ : ByteArray)⟩ : S60) )) (Reps.none _ _)))); intro v102 w22 ho23 hb hg_ hnew_; clear hg_ hnew_; (first | rw [← Ny101.out] at ho23 | (simp only [Int.reduceToNat] at ho23; rw [← Ny101.out] at ho23)); have n0_ := Aside0.mk (Kd.R_lower ho23 (below_size (by repeat (first | (with_reducible first | exact HB.out | apply below_alloc | apply pw_below_drewN | apply below_drew1) | exact HB.out)))); have n1_ := Aside0.mk (below_step (by repeat (first | (with_reducible first | exact HB.out | apply below_alloc | apply pw_below_drewN | apply below_drew1) | exact HB.out)) hb); clear HB; have HO103 := n0_; have HB := n1_; clear n0_ n1_; clear hb ho23; obtain ⟨Ao24, co24, eo24⟩ := Kd.R_slice HO103.out; subst eo24) | ((with_reducible refine gate_callee (f := 23) rfl ?_); refine goesL_ (some 7) rfl rfl Try.func23 (by kernel_rfl) rfl #[.slice Ao24 y101.length co24] rfl (by (try simp only [List.map_toArray, List.map_cons, List.map_nil]); first | done | rfl | (simp only [List.length_drop, List.length_take]; rfl)) ?_; (with_reducible refine (dirty_Of.calls _ _ y101 t104 t105 _ ?side1 ?side2 A1.out).mono ?_); (case side1 => repeat (first | exact (Kd.R_reads' HO103.out).2.2 | (with_reducible refine Kd.C_alloc ?_ _) | (with_reducible refine Kd.C_drewN ?_ _) | (with_reducible refine Kd.C_drew ?_))); (case side2 => exact (Kd.R_reads' HO103.out).2.1); rintro e w25 ⟨v106, rfl, ho0, hb⟩; refine ⟨_, rfl, ?_⟩; have n0_ := Aside0.mk (Kd.R_below (by (with_reducible repeat (first | apply Kd.R_alloc | apply Kd.R_drewN | apply Kd.R_drew)); exact HO103.out) hb); have n1_ := Aside0.mk (Kd.R_lower ho0 (below_size (by repeat (first | (with_reducible first | exact HB.out | apply below_alloc | apply pw_below_drewN | apply below_drew1) | exact HB.out)))); have n2_ := Aside0.mk (below_step (by repeat (first | (with_reducible first | exact HB.out | apply below_alloc | apply pw_below_drewN | apply below_drew1) | exact HB.out)) hb); clear HO103; clear HB; have HO103 := n0_; have HO107 := n1_; have HB := n2_; clear n0_ n1_ n2_; (try clear hb); (try clear hb2); (try clear hk); (try clear hi); (try clear ho0); obtain ⟨Ao26, co26, eo26⟩ := Kd.R_slice HO107.out; subst eo26))
    go_ret
    exact ⟨by first | rfl | (simp [errW_none, errW_some] <;> rfl) | (simp [*, errW_none, errW_some] <;> rfl), by repeat (first | (with_reducible first | exact HB.out | apply below_alloc | apply pw_below_drewN | apply below_drew1) | exact HB.out)⟩

/-! ### dirty_Right: function 14 -/
def dirty_Right.l0 : Nat → Int → List (S63) → Int → Int → Option (Bool)
  | 0, _, _, _, _ => none
  | k + 1, x3, x6, x7, x8 => if x8 < x7 then (if 0 ≤ x8 then (if x8 < (x6.length : Int) then (if ((rd_T63 x6 x8).f0) ≤ x3 then (some false) else (if ((rd_T63 x6 x8).f0) > 255 then (some false) else (if ((rd_T63 x6 x8).f1) = 0 then (some false) else (if ((rd_T63 x6 x8).f1) ≥ 4294967296 then (some false) else (dirty_Right.l0 k ((rd_T63 x6 x8).f0) x6 x7 (wrap64 (x8 + 1))))))) else (none)) else (none)) else (some true)
def dirty_Right.f (k : Nat) (l0 : List (S63)) : Option (Bool) := dirty_Right.l0 k 0 l0 (l0.length : Int) 0
theorem dirty_Right.mono_l : ∀ k, (∀ y0 y1 y2 y3, LeO (dirty_Right.l0 k y0 y1 y2 y3) (dirty_Right.l0 (k + 1) y0 y1 y2 y3))
  | 0 => fun _ _ _ _ r h => by simp [dirty_Right.l0] at h
  | k + 1 => by
    have ih0 := dirty_Right.mono_l k
    · intro y0 y1 y2 y3
      unfold dirty_Right.l0
      repeat' first
      | (with_reducible exact ih0 _ _ _ _)
      | (with_reducible exact LeO.refl _)
      | (with_reducible exact LeO.none _)
      | (with_reducible refine LeO.ite ?_ ?_)
      | (with_reducible refine LeO.bind ?_ (fun _ => ?_))
      | exact ih0 _ _ _ _
      | exact LeO.none _
      | refine LeO.ite ?_ ?_
      | refine LeO.bind ?_ (fun _ => ?_)
theorem dirty_Right.mono : ∀ a0 k, LeO (dirty_Right.f k a0) (dirty_Right.f (k + 1) a0) := by
  intro a0 k
  have ih0 := dirty_Right.mono_l k
  unfold dirty_Right.f
  repeat' first
      | (with_reducible exact ih0 _ _ _ _)
      | (with_reducible exact LeO.refl _)
      | (with_reducible exact LeO.none _)
      | (with_reducible refine LeO.ite ?_ ?_)
      | (with_reducible refine LeO.bind ?_ (fun _ => ?_))
      | exact ih0 _ _ _ _
      | exact LeO.none _
      | refine LeO.ite ?_ ?_
      | refine LeO.bind ?_ (fun _ => ?_)
set_option maxHeartbeats 8000000 in
set_option maxRecDepth 100000 in
theorem dirty_Right.calls (k : Nat) (A0 : Option Addr) (c0 : Nat) (l0 : List (S63)) (r : Bool) (w : World) (hr0 : Kd.C k63 w A0 l0.length l0) (hc0 : l0.length ≤ c0) (h : dirty_Right.f k l0 = some r) :
    Calls Try.prog 14 #[.slice A0 l0.length c0] w fun e w' => e = .returned (.bool r) ∧ Below w.heap.size w w' := by
  have hu63 := Try.underlying63
  have HR0 := Aside0.mk hr0
  have HC0 := Aside0.mk hc0
  clear hr0 hc0
  have HB := Aside0.mk (Below.refl w.heap.size w)
  have H : (dirty_Right.l0 k 0 l0 (l0.length : Int) 0) = some r := h
  clear h
  have H' := Aside0.mk H
  clear H
  go_enter Try.func14, Try.ntmps14
  go_wp2
  go_loopg [3, 8] k (fun kq v3 v8 w' => ∃ (x3_1 : Int) (x8_1 : Int), v3 = .int .i64 x3_1 ∧ v8 = .int .i64 x8_1 ∧ Aside0 (dirty_Right.l0 kq x3_1 l0 (l0.length : Int) x8_1 = some r) ∧ Aside0 (kq ≤ k) ∧ Aside0 (Below w.heap.size w w'))
  case atStart => exact ⟨(0), (0), (by first | rfl | (simp; done) | (simp [*]; done)), (by first | rfl | (simp; done) | (simp [*]; done)), H', ⟨Nat.le_refl _⟩, ⟨by repeat (first | (with_reducible first | exact HB.out | apply below_alloc | apply pw_below_drewN | apply below_drew1) | exact HB.out)⟩⟩
  case round =>
    clear H'
    try clear c1
    obtain ⟨x3_1, x8_1, rfl, rfl, HA, HK1, HB⟩ := hrel
    cases gk with
    | zero => exact absurd HA.out (by simp [dirty_Right.l0])
    | succ k1 =>
      have H := HA.out
      clear HA
      simp only [dirty_Right.l0] at H
      by_cases c2 : x8_1 < (l0.length : Int)
      · rw [if_pos c2] at H
        have c2b0 : decide (x8_1 < (l0.length : Int)) = true := decide_eq_true c2
        clear c2
        by_cases c3 : 0 ≤ x8_1
        · rw [if_pos c3] at H
          have c3b0 : decide (0 ≤ x8_1) = true := decide_eq_true c3
          clear c3
          by_cases c4 : x8_1 < (l0.length : Int)
          · rw [if_pos c4] at H
            have c4b0 : decide (x8_1 < (l0.length : Int)) = true := decide_eq_true c4
            clear c4
            by_cases c5 : ((rd_T63 l0 x8_1).f0) ≤ x3_1
            · rw [if_pos c5] at H
              have c5b0 : decide (((rd_T63 l0 x8_1).f0) ≤ x3_1) = true := decide_eq_true c5
              clear c5
              obtain rfl := Option.some.inj H
              have p110 : 0 ≤ (x8_1 : Int) := of_decide_eq_true (by first | (with_reducible assumption) | assumption)
              have q110 : x8_1 < (l0.length : Int) := of_decide_eq_true (by first | (with_reducible assumption) | assumption)
              obtain ⟨ad110, e110, hx110_0, hx110_1⟩ := at_T63 HR0.out x8_1 p110 q110
              cases e110
              replace hx110_0 := (HB.out.cell (World.block_lt_of_cell? w _ hx110_0)).trans hx110_0
              replace hx110_1 := (HB.out.cell (World.block_lt_of_cell? w _ hx110_1)).trans hx110_1
              replace p110 := eq_true p110
              replace q110 := eq_true q110
              go_wp2_with (first | ((with_reducible refine gate_dst (N := 5) rfl ?_); refine box_event ?hg (N := 5) ?hd (cs := #[.int .i64 0, .int .u64 0]) (t := 63) ?hr ?_; (case hd => rfl); (case hg => rfl); (case hr => first | (go_simp; done) | (go_simp; rfl) | (go_simp; simp only [w64m])); intro gb111 hg w6 hbox hb; have n0_ := Aside0.mk (below_step (by repeat (first | (with_reducible first | exact HB.out | apply below_alloc | apply pw_below_drewN | apply below_drew1) | exact HB.out)) hb); have n1_ := Aside0.mk (hbox); have n2_ := Aside0.mk ((by rw [hg]; exact (below_size (by repeat (first | (with_reducible first | exact HB.out | apply below_alloc | apply pw_below_drewN | apply below_drew1) | exact HB.out))) : w.heap.size ≤ gb111)); have n3_ := Aside0.mk ((by rw [hg]; exact (below_size (by repeat (first | (with_reducible first | exact HB.out | apply below_alloc | apply pw_below_drewN | apply below_drew1) | exact HB.out))) : w.heap.size ≤ gb111)); clear HB; have HB := n0_; have BK111 := n1_; have GW111 := n2_; have GE111 := n3_; clear n0_ n1_ n2_ n3_; clear hb hbox hg; have hcz7_0 : w6.cell? ⟨gb111, 0, none⟩ = some (.int .i64 0) := (blk_cell BK111.out 0).trans rfl; have hcz7_1 : w6.cell? ⟨gb111, 1, none⟩ = some (.int .u64 0) := (blk_cell BK111.out 1).trans rfl; have hfz7_0 := blk_frozen BK111.out 0; have hfz7_1 := blk_frozen BK111.out 1))
              go_ret
              exact ⟨by first | rfl | (simp [errW_none, errW_some] <;> rfl) | (simp [*, errW_none, errW_some] <;> rfl), by repeat (first | (with_reducible first | exact HB.out | apply below_alloc | apply pw_below_drewN | apply below_drew1 | refine below_set ?_ GE111.out) | exact HB.out)⟩
            · rw [if_neg c5] at H
              have c5b0 : decide (((rd_T63 l0 x8_1).f0) ≤ x3_1) = false := decide_eq_false c5
              clear c5
              by_cases c8 : ((rd_T63 l0 x8_1).f0) > 255
              · rw [if_pos c8] at H
                have c8b0 : decide (255 < ((rd_T63 l0 x8_1).f0)) = true := decide_eq_true c8
                clear c8
                obtain rfl := Option.some.inj H
                have p110 : 0 ≤ (x8_1 : Int) := of_decide_eq_true (by first | (with_reducible assumption) | assumption)
                have q110 : x8_1 < (l0.length : Int) := of_decide_eq_true (by first | (with_reducible assumption) | assumption)
                obtain ⟨ad110, e110, hx110_0, hx110_1⟩ := at_T63 HR0.out x8_1 p110 q110
                cases e110
                replace hx110_0 := (HB.out.cell (World.block_lt_of_cell? w _ hx110_0)).trans hx110_0
                replace hx110_1 := (HB.out.cell (World.block_lt_of_cell? w _ hx110_1)).trans hx110_1
                replace p110 := eq_true p110
                replace q110 := eq_true q110
                go_wp2_with (first | ((with_reducible refine gate_dst (N := 5) rfl ?_); refine box_event ?hg (N := 5) ?hd (cs := #[.int .i64 0, .int .u64 0]) (t := 63) ?hr ?_; (case hd => rfl); (case hg => rfl); (case hr => first | (go_simp; done) | (go_simp; rfl) | (go_simp; simp only [w64m])); intro gb111 hg w9 hbox hb; have n0_ := Aside0.mk (below_step (by repeat (first | (with_reducible first | exact HB.out | apply below_alloc | apply pw_below_drewN | apply below_drew1) | exact HB.out)) hb); have n1_ := Aside0.mk (hbox); have n2_ := Aside0.mk ((by rw [hg]; exact (below_size (by repeat (first | (with_reducible first | exact HB.out | apply below_alloc | apply pw_below_drewN | apply below_drew1) | exact HB.out))) : w.heap.size ≤ gb111)); have n3_ := Aside0.mk ((by rw [hg]; exact (below_size (by repeat (first | (with_reducible first | exact HB.out | apply below_alloc | apply pw_below_drewN | apply below_drew1) | exact HB.out))) : w.heap.size ≤ gb111)); clear HB; have HB := n0_; have BK111 := n1_; have GW111 := n2_; have GE111 := n3_; clear n0_ n1_ n2_ n3_; clear hb hbox hg; have hcz10_0 : w9.cell? ⟨gb111, 0, none⟩ = some (.int .i64 0) := (blk_cell BK111.out 0).trans rfl; have hcz10_1 : w9.cell? ⟨gb111, 1, none⟩ = some (.int .u64 0) := (blk_cell BK111.out 1).trans rfl; have hfz10_0 := blk_frozen BK111.out 0; have hfz10_1 := blk_frozen BK111.out 1))
                go_ret
                exact ⟨by first | rfl | (simp [errW_none, errW_some] <;> rfl) | (simp [*, errW_none, errW_some] <;> rfl), by repeat (first | (with_reducible first | exact HB.out | apply below_alloc | apply pw_below_drewN | apply below_drew1 | refine below_set ?_ GE111.out) | exact HB.out)⟩
              · rw [if_neg c8] at H
                have c8b0 : decide (255 < ((rd_T63 l0 x8_1).f0)) = false := decide_eq_false c8
                clear c8
                by_cases c11 : ((rd_T63 l0 x8_1).f1) = 0
                · rw [if_pos c11] at H
                  have c11b0 : (((rd_T63 l0 x8_1).f1) == 0) = true := beq_iff_eq.mpr c11
                  have c11b1 : (((rd_T63 l0 x8_1).f1) != 0) = false := bne_eq_false_iff_eq.mpr c11
                  clear c11
                  obtain rfl := Option.some.inj H
                  have p110 : 0 ≤ (x8_1 : Int) := of_decide_eq_true (by first | (with_reducible assumption) | assumption)
                  have q110 : x8_1 < (l0.length : Int) := of_decide_eq_true (by first | (with_reducible assumption) | assumption)
                  obtain ⟨ad110, e110, hx110_0, hx110_1⟩ := at_T63 HR0.out x8_1 p110 q110
                  cases e110
                  replace hx110_0 := (HB.out.cell (World.block_lt_of_cell? w _ hx110_0)).trans hx110_0
                  replace hx110_1 := (HB.out.cell (World.block_lt_of_cell? w _ hx110_1)).trans hx110_1
                  replace p110 := eq_true p110
                  replace q110 := eq_true q110
                  go_wp2_with (first | ((with_reducible refine gate_dst (N := 5) rfl ?_); refine box_event ?hg (N := 5) ?hd (cs := #[.int .i64 0, .int .u64 0]) (t := 63) ?hr ?_; (case hd => rfl); (case hg => rfl); (case hr => first | (go_simp; done) | (go_simp; rfl) | (go_simp; simp only [w64m])); intro gb111 hg w12 hbox hb; have n0_ := Aside0.mk (below_step (by repeat (first | (with_reducible first | exact HB.out | apply below_alloc | apply pw_below_drewN | apply below_drew1) | exact HB.out)) hb); have n1_ := Aside0.mk (hbox); have n2_ := Aside0.mk ((by rw [hg]; exact (below_size (by repeat (first | (with_reducible first | exact HB.out | apply below_alloc | apply pw_below_drewN | apply below_drew1) | exact HB.out))) : w.heap.size ≤ gb111)); have n3_ := Aside0.mk ((by rw [hg]; exact (below_size (by repeat (first | (with_reducible first | exact HB.out | apply below_alloc | apply pw_below_drewN | apply below_drew1) | exact HB.out))) : w.heap.size ≤ gb111)); clear HB; have HB := n0_; have BK111 := n1_; have GW111 := n2_; have GE111 := n3_; clear n0_ n1_ n2_ n3_; clear hb hbox hg; have hcz13_0 : w12.cell? ⟨gb111, 0, none⟩ = some (.int .i64 0) := (blk_cell BK111.out 0).trans rfl; have hcz13_1 : w12.cell? ⟨gb111, 1, none⟩ = some (.int .u64 0) := (blk_cell BK111.out 1).trans rfl; have hfz13_0 := blk_frozen BK111.out 0; have hfz13_1 := blk_frozen BK111.out 1))
                  go_ret
                  exact ⟨by first | rfl | (simp [errW_none, errW_some] <;> rfl) | (simp [*, errW_none, errW_some] <;> rfl), by repeat (first | (with_reducible first | exact HB.out | apply below_alloc | apply pw_below_drewN | apply below_drew1 | refine below_set ?_ GE111.out) | exact HB.out)⟩
                · rw [if_neg c11] at H
                  have c11b0 : (((rd_T63 l0 x8_1).f1) == 0) = false := beq_eq_false_iff_ne.mpr c11
                  have c11b1 : (((rd_T63 l0 x8_1).f1) != 0) = true := bne_iff_ne.mpr c11
                  by_cases c14 : ((rd_T63 l0 x8_1).f1) ≥ 4294967296
                  · rw [if_pos c14] at H
                    have c14b0 : decide (4294967296 ≤ ((rd_T63 l0 x8_1).f1)) = true := decide_eq_true c14
                    clear c14
                    obtain rfl := Option.some.inj H
                    have p110 : 0 ≤ (x8_1 : Int) := of_decide_eq_true (by first | (with_reducible assumption) | assumption)
                    have q110 : x8_1 < (l0.length : Int) := of_decide_eq_true (by first | (with_reducible assumption) | assumption)
                    obtain ⟨ad110, e110, hx110_0, hx110_1⟩ := at_T63 HR0.out x8_1 p110 q110
                    cases e110
                    replace hx110_0 := (HB.out.cell (World.block_lt_of_cell? w _ hx110_0)).trans hx110_0
                    replace hx110_1 := (HB.out.cell (World.block_lt_of_cell? w _ hx110_1)).trans hx110_1
                    replace p110 := eq_true p110
                    replace q110 := eq_true q110
                    go_wp2_with (first | ((with_reducible refine gate_dst (N := 5) rfl ?_); refine box_event ?hg (N := 5) ?hd (cs := #[.int .i64 0, .int .u64 0]) (t := 63) ?hr ?_; (case hd => rfl); (case hg => rfl); (case hr => first | (go_simp; done) | (go_simp; rfl) | (go_simp; simp only [w64m])); intro gb111 hg w15 hbox hb; have n0_ := Aside0.mk (below_step (by repeat (first | (with_reducible first | exact HB.out | apply below_alloc | apply pw_below_drewN | apply below_drew1) | exact HB.out)) hb); have n1_ := Aside0.mk (hbox); have n2_ := Aside0.mk ((by rw [hg]; exact (below_size (by repeat (first | (with_reducible first | exact HB.out | apply below_alloc | apply pw_below_drewN | apply below_drew1) | exact HB.out))) : w.heap.size ≤ gb111)); have n3_ := Aside0.mk ((by rw [hg]; exact (below_size (by repeat (first | (with_reducible first | exact HB.out | apply below_alloc | apply pw_below_drewN | apply below_drew1) | exact HB.out))) : w.heap.size ≤ gb111)); clear HB; have HB := n0_; have BK111 := n1_; have GW111 := n2_; have GE111 := n3_; clear n0_ n1_ n2_ n3_; clear hb hbox hg; have hcz16_0 : w15.cell? ⟨gb111, 0, none⟩ = some (.int .i64 0) := (blk_cell BK111.out 0).trans rfl; have hcz16_1 : w15.cell? ⟨gb111, 1, none⟩ = some (.int .u64 0) := (blk_cell BK111.out 1).trans rfl; have hfz16_0 := blk_frozen BK111.out 0; have hfz16_1 := blk_frozen BK111.out 1))
                    go_ret
                    exact ⟨by first | rfl | (simp [errW_none, errW_some] <;> rfl) | (simp [*, errW_none, errW_some] <;> rfl), by repeat (first | (with_reducible first | exact HB.out | apply below_alloc | apply pw_below_drewN | apply below_drew1 | refine below_set ?_ GE111.out) | exact HB.out)⟩
                  · rw [if_neg c14] at H
                    have c14b0 : decide (4294967296 ≤ ((rd_T63 l0 x8_1).f1)) = false := decide_eq_false c14
                    clear c14
                    have H' := Aside0.mk H
                    clear H
                    have p110 : 0 ≤ (x8_1 : Int) := of_decide_eq_true (by first | (with_reducible assumption) | assumption)
                    have q110 : x8_1 < (l0.length : Int) := of_decide_eq_true (by first | (with_reducible assumption) | assumption)
                    obtain ⟨ad110, e110, hx110_0, hx110_1⟩ := at_T63 HR0.out x8_1 p110 q110
                    cases e110
                    replace hx110_0 := (HB.out.cell (World.block_lt_of_cell? w _ hx110_0)).trans hx110_0
                    replace hx110_1 := (HB.out.cell (World.block_lt_of_cell? w _ hx110_1)).trans hx110_1
                    replace p110 := eq_true p110
                    replace q110 := eq_true q110
                    go_wp2_with (first | ((with_reducible refine gate_dst (N := 5) rfl ?_); refine box_event ?hg (N := 5) ?hd (cs := #[.int .i64 0, .int .u64 0]) (t := 63) ?hr ?_; (case hd => rfl); (case hg => rfl); (case hr => first | (go_simp; done) | (go_simp; rfl) | (go_simp; simp only [w64m])); intro gb111 hg w17 hbox hb; have n0_ := Aside0.mk (below_step (by repeat (first | (with_reducible first | exact HB.out | apply below_alloc | apply pw_below_drewN | apply below_drew1) | exact HB.out)) hb); have n1_ := Aside0.mk (hbox); have n2_ := Aside0.mk ((by rw [hg]; exact (below_size (by repeat (first | (with_reducible first | exact HB.out | apply below_alloc | apply pw_below_drewN | apply below_drew1) | exact HB.out))) : w.heap.size ≤ gb111)); have n3_ := Aside0.mk ((by rw [hg]; exact (below_size (by repeat (first | (with_reducible first | exact HB.out | apply below_alloc | apply pw_below_drewN | apply below_drew1) | exact HB.out))) : w.heap.size ≤ gb111)); clear HB; have HB := n0_; have BK111 := n1_; have GW111 := n2_; have GE111 := n3_; clear n0_ n1_ n2_ n3_; clear hb hbox hg; have hcz18_0 : w17.cell? ⟨gb111, 0, none⟩ = some (.int .i64 0) := (blk_cell BK111.out 0).trans rfl; have hcz18_1 : w17.cell? ⟨gb111, 1, none⟩ = some (.int .u64 0) := (blk_cell BK111.out 1).trans rfl; have hfz18_0 := blk_frozen BK111.out 0; have hfz18_1 := blk_frozen BK111.out 1))
                    go_roundg k1
                    case measure => have := HK1.out; omega
                    case rel => exact ⟨((rd_T63 l0 x8_1).f0), (wrap64 (x8_1 + 1)), (by first | rfl | (simp; done) | (simp [*]; done)), (by first | rfl | (simp; done) | (simp [*]; done)), H', ⟨by have := HK1.out; omega⟩, ⟨by repeat (first | (with_reducible first | exact HB.out | apply below_alloc | apply pw_below_drewN | apply below_drew1 | refine below_set ?_ GE111.out) | exact HB.out)⟩⟩
          · rw [if_neg c4] at H
            exact absurd H (by simp)
        · rw [if_neg c3] at H
          exact absurd H (by simp)
      · rw [if_neg c2] at H
        have c2b0 : decide (x8_1 < (l0.length : Int)) = false := decide_eq_false c2
        clear c2
        obtain rfl := Option.some.inj H
        go_wp2
        go_ret
        exact ⟨by first | rfl | (simp [errW_none, errW_some] <;> rfl) | (simp [*, errW_none, errW_some] <;> rfl), by repeat (first | (with_reducible first | exact HB.out | apply below_alloc | apply pw_below_drewN | apply below_drew1) | exact HB.out)⟩

-- NOT PRINTED: function 32 (dirty_spread)

end Go.Proofs.Ytcigkejiompieaa.P
