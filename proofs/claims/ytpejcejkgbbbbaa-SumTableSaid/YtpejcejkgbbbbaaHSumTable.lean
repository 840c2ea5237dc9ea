/- SumTable, walked by hand: one place of the table against the sum of one byte. -/
import Derived.Test.YtpejcejkgbbbbaaPx1
import Derived.Test.YtpejcejkgbbbbaaHSum
set_option linter.unusedVariables false
set_option linter.unusedSimpArgs false
namespace Go.Proofs.Ytpejcejkgbbbbaa.P
open Go.RowKit Go.Proofs.YtpejcejkgbbbbaaW.PrintWords Go.Proofs.YtpejcejkgbbbbaaW.PrintLast Go.Proofs.YtpejcejkgbbbbaaW.PrintMore

def counterfoillaw02_SumTable.Pure : Prop := ∀ n : Int, (Lit.int .u8 n).wf = true → ∃ k c, counterfoilref02_On.f k 4294967295 (strOfNums [n]) = some c ∧ 0 ≤ c ∧ c < 4294967296 ∧ (tab n.toNat : Int) = 4294967295 - c ∧ counterfoillaw02_awake.f = some true
theorem not32 {c : Int} (h0 : 0 ≤ c) (h1 : c < 4294967296) : Go.bits .xor .u32 (if IntKind.u32.signed = true then -1 else IntKind.u32.max) c = 4294967295 - c := by
  rw [if_neg (by decide)]
  obtain ⟨n, rfl⟩ := Int.eq_ofNat_of_zero_le h0
  have hmax : IntKind.u32.max = 4294967295 := by decide
  rw [hmax, bits_not32 n (by omega)]
  omega
set_option maxHeartbeats 1000000 in
set_option maxRecDepth 100000 in
theorem counterfoillaw02_SumTable.walk (P : counterfoillaw02_SumTable.Pure) (a0 : Int) (w : World) (w0 : (Lit.int .u8 a0).wf = true) :
    Calls Try.prog 4 #[.int .u8 a0] w fun e w' => e = .returned (.bool true) ∧ Below w.heap.size w w' := by
  obtain ⟨k, c, hc, c0, c1, he, ha⟩ := P a0 w0
  have hn : 0 ≤ a0 ∧ a0 ≤ 255 := by simpa [Lit.wf, IntKind.min, IntKind.max, IntKind.signed, IntKind.bits] using w0
  obtain ⟨n, rfl⟩ := Int.eq_ofNat_of_zero_le hn.1
  rw [Int.toNat_natCast] at he
  have hz := run_zero_info infoTab
  have hs0 := Aside0.mk (tabRow_size 0)
  have hs1 := Aside0.mk (tabRow_size 256)
  have ho1 := Aside0.mk (tabRow_one 256)
  have hget := Aside0.mk (tabRow_get 256 n (by omega))
  have HC := Aside0.mk hc
  have HA := Aside0.mk ha
  have HE := Aside0.mk he
  obtain ⟨R0, hR0⟩ : ∃ R0, R0 = tabRow 0 := ⟨_, rfl⟩
  obtain ⟨R1, hR1⟩ : ∃ R1, R1 = tabRow 256 := ⟨_, rfl⟩
  rw [← hR0] at hz hs0
  rw [← hR1] at hs1 ho1 hget
  replace hR1 := Aside0.mk hR1
  have hn0 : 0 ≤ (n : Int) := by omega
  have hn1 : (n : Int) < 256 := by omega
  clear hR0 hc ha he w0 hn
  go_enter Try.func4, Try.ntmps4
  go_wp2_with (first
        | (go_at_call 14; refine (sum_Table.walk _).mono ?_; rintro e w1 ⟨rfl, hb1⟩; rw [← hR1.out]; have HB1 := Aside0.mk hb1; clear hb1)
        | (refine wpList_store_row rfl 27 (.tmp 3) (.tmp 4) rfl _ R1 rfl rfl 27 R0 (heap_alloc_new w1 _) (sizeTab.trans (by rw [hs1.out])) (hs0.out.trans hs1.out.symm) ho1.out ?_))
  have HR := Aside0.mk (setRow_heap (w1.alloc (.cells R0 27)) w1.heap.size R0 R1 27 (0, 0) (heap_alloc_new w1 _))
  have HB := Aside0.mk (below_setRow (below_alloc HB1.out (.cells R0 27)) HB1.out.size R1)
  generalize (w1.alloc (Obj.cells R0 27)).setRow w1.heap.size R1 = W at *
  generalize w1.heap.size = g at *
  have HS : W.drew.cell? ⟨g, n, none⟩ = some (.int .u32 (tab n : Nat)) := by
    have := cell_of_row W g n R1 27 (0, 0) HR.out
    rw [hget.out, if_pos (by omega)] at this
    simpa using this
  have HBd := Aside0.mk (below_drew1 HB.out)
  clear HB HR
  refine start_ (n := 13) (S := fun w' => w'.cell? ⟨g, n, none⟩ = some (.int .u32 (tab n : Nat))) (ds := []) #[false, false, false, false, false, false, false, false, false, false, false, false, false] (by kernel_rfl) rfl rfl HS (fun hHeld => ?_)
  generalize W.drew = W1 at *
  clear HS
  refine pure_ (i := 0) (N := some 5) (v := ?_) (a' := ?_) #[true, false, false, false, false, false, false, false, false, false, false, false, false] rfl rfl (by kernel_rfl) (fun _ _ _ h => h) (Or.inl ⟨by rfl, ?_⟩) ?_ ?_
  rotate_left
  · intro w'
    go_simp
    with_reducible rfl
  rotate_left
  · simp only [Act.put, List.setIfInBounds_toArray, List.set_cons_zero, List.set_cons_succ, i64_w, i32_w]
    rfl
  refine pure_ (i := 1) (N := some 6) (v := ?_) (a' := ?_) #[true, true, false, false, false, false, false, false, false, false, false, false, false] rfl rfl (by kernel_rfl) (fun _ _ _ h => h) (Or.inl ⟨by rfl, ?_⟩) ?_ ?_
  rotate_left
  · intro w'
    go_simp
    with_reducible rfl
  rotate_left
  · simp only [Act.put, List.setIfInBounds_toArray, List.set_cons_zero, List.set_cons_succ, i64_w, i32_w]
    rfl
  refine take_ (i := 2) (N := some 7) (v := ?_) (a' := ?_) #[true, true, true, false, false, false, false, false, false, false, false, false, false] rfl rfl (by kernel_rfl) (fun _ _ _ h => h) (Or.inl ⟨by rfl, ?_⟩) hHeld ?_ ?_
  rotate_left
  · intro w' s0
    go_simp
    with_reducible rfl
  rotate_left
  · simp only [Act.put, List.setIfInBounds_toArray, List.set_cons_zero, List.set_cons_succ, i64_w, i32_w]
    rfl
  refine pure_ (i := 3) (N := some 8) (v := ?_) (a' := ?_) #[true, true, true, true, false, false, false, false, false, false, false, false, false] rfl rfl (by kernel_rfl) (fun _ _ _ h => h) (Or.inl ⟨by rfl, ?_⟩) ?_ ?_
  rotate_left
  · intro w'
    go_simp
    with_reducible rfl
  rotate_left
  · simp only [Act.put, List.setIfInBounds_toArray, List.set_cons_zero, List.set_cons_succ, i64_w, i32_w]
    rfl
  refine one_ (i := 4) (N := some 9) #[true, true, true, true, true, false, false, false, false, false, false, false, false] rfl rfl (by kernel_rfl) (by decide) (fun K hK => ?_)
  refine event_step (by rfl) (v := .slice (some ⟨W1.heap.size, 0, none⟩) 1 1) (w1 := W1.alloc (.cells #[.int .u8 (n : Int)] 5)) (by go_simp) ?_
  refine hK.out _ _ ((below_alloc (Below.refl _ _) _).cell (World.block_lt_of_cell? _ _ hHeld) |>.trans hHeld) (fun hHeld2 => ?_)
  clear hK K
  refine norm_ (a' := ?_) ?_ ?_
  rotate_left
  · show Act.put _ (some 9) _ = _
    simp only [Act.put, List.setIfInBounds_toArray, List.set_cons_zero, List.set_cons_succ, i64_w, i32_w]
    rfl
  refine one_ (i := 5) (N := some 10) #[true, true, true, true, true, true, false, false, false, false, false, false, false] rfl rfl (by kernel_rfl) (by decide) (fun K hK => ?_)
  refine event_step (by rfl) (v := .string (strOfNums [(n : Int)])) (w1 := W1.alloc (.cells #[.int .u8 (n : Int)] 5)) ?_ ?_
  · have := run_convert_bytes_arg (P := Try.prog) (W1.alloc (.cells #[.int .u8 (n : Int)] 5)) 29 5 Try.underlying29 Try.underlying5 W1.heap.size 0 1 1 [(n : Int)] rfl (fun i hi => by
      obtain rfl : i = 0 := by omega
      have := cell_of_row _ _ 0 _ _ _ (heap_alloc_new W1 (.cells #[.int .u8 (n : Int)] 5))
      exact this) 9 Try.underlying9
    go_simp
  refine hK.out _ _ hHeld2 (fun hHeld3 => ?_)
  clear hK K
  refine norm_ (a' := ?_) ?_ ?_
  rotate_left
  · show Act.put _ (some 10) _ = _
    simp only [Act.put, List.setIfInBounds_toArray, List.set_cons_zero, List.set_cons_succ, i64_w, i32_w]
    rfl
  have HB2 := Aside0.mk (below_alloc HBd.out (.cells #[.int .u8 (n : Int)] 5))
  clear HBd hHeld hHeld2
  generalize W1.alloc (.cells #[.int .u8 (n : Int)] 5) = W2 at *
  refine one_ (i := 6) (N := some 11) #[true, true, true, true, true, true, true, false, false, false, false, false, false] rfl rfl (by kernel_rfl) (by decide) (fun K hK => ?_)
  refine goes_ Try.func11 (by kernel_rfl) rfl #[.int .u32 4294967295, .string (strOfNums [(n : Int)])] (by rfl) rfl rfl (by (try simp only [List.map_toArray, List.map_cons, List.map_nil]); first | done | rfl) ?_
  with_reducible refine (counterfoilref02_On.calls k 4294967295 (strOfNums [(n : Int)]) c _ HC.out).mono ?_
  rintro e w' ⟨rfl, ⟨nd, rfl⟩⟩
  refine ⟨_, rfl, ?_⟩
  refine hK.out _ _ (by simpa using hHeld3) (fun hHeld4 => ?_)
  clear hK K hHeld3
  refine norm_ (a' := ?_) ?_ ?_
  rotate_left
  · show Act.put _ (some 11) _ = _
    simp only [Act.put, List.setIfInBounds_toArray, List.set_cons_zero, List.set_cons_succ, i64_w, i32_w]
    rfl
  have hnot := not32 c0 c1
  have heq : ((tab n : Int) == 4294967295 - c) = true := beq_iff_eq.2 HE.out
  refine pure_ (i := 7) (N := some 12) (v := ?_) (a' := ?_) #[true, true, true, true, true, true, true, true, false, false, false, false, false] rfl rfl (by kernel_rfl) (fun _ _ _ h => h) (Or.inl ⟨by rfl, ?_⟩) ?_ ?_
  rotate_left
  · intro w'
    go_simp
    with_reducible rfl
  rotate_left
  · simp only [Act.put, List.setIfInBounds_toArray, List.set_cons_zero, List.set_cons_succ, i64_w, i32_w]
    rfl
  refine pure_ (i := 8) (N := some 13) (v := ?_) (a' := ?_) #[true, true, true, true, true, true, true, true, true, false, false, false, false] rfl rfl (by kernel_rfl) (fun _ _ _ h => h) (Or.inl ⟨by rfl, ?_⟩) ?_ ?_
  rotate_left
  · intro w'
    go_simp
    with_reducible rfl
  rotate_left
  · simp only [Act.put, List.setIfInBounds_toArray, List.set_cons_zero, List.set_cons_succ, i64_w, i32_w]
    rfl
  refine pure_ (i := 9) (N := some 14) (v := ?_) (a' := ?_) #[true, true, true, true, true, true, true, true, true, true, false, false, false] rfl rfl (by kernel_rfl) (fun _ _ _ h => h) (Or.inl ⟨by rfl, ?_⟩) ?_ ?_
  rotate_left
  · intro w'
    go_simp
    with_reducible rfl
  rotate_left
  · simp only [Act.put, List.setIfInBounds_toArray, List.set_cons_zero, List.set_cons_succ, i64_w, i32_w]
    rfl
  refine one_ (i := 10) (N := some 15) #[true, true, true, true, true, true, true, true, true, true, true, false, false] rfl rfl (by kernel_rfl) (by decide) (fun K hK => ?_)
  refine goes_ Try.func13 (by kernel_rfl) rfl #[] (by rfl) rfl rfl (by (try simp only [List.map_toArray, List.map_cons, List.map_nil]); first | done | rfl) ?_
  with_reducible refine (counterfoillaw02_awake.calls true _ HA.out).mono ?_
  rintro e w' ⟨rfl, hb⟩
  refine ⟨_, rfl, ?_⟩
  have HB3 := Aside0.mk (below_step (pw_below_drewN HB2.out nd) hb)
  refine hK.out _ _ ((hb.cell (World.block_lt_of_cell? _ _ hHeld4)).trans hHeld4) (fun hHeld5 => ?_)
  clear hK K hHeld4 hb
  refine norm_ (a' := ?_) ?_ ?_
  rotate_left
  · show Act.put _ (some 15) _ = _
    simp only [Act.put, List.setIfInBounds_toArray, List.set_cons_zero, List.set_cons_succ, i64_w, i32_w]
    rfl
  refine pure_ (i := 11) (N := some 16) (v := ?_) (a' := ?_) #[true, true, true, true, true, true, true, true, true, true, true, true, false] rfl rfl (by kernel_rfl) (fun _ _ _ h => h) (Or.inl ⟨by rfl, ?_⟩) ?_ ?_
  rotate_left
  · intro w'
    go_simp
    with_reducible rfl
  rotate_left
  · simp only [Act.put, List.setIfInBounds_toArray, List.set_cons_zero, List.set_cons_succ, i64_w, i32_w]
    rfl
  refine pure_ (i := 12) (N := some 2) (v := ?_) (a' := ?_) #[true, true, true, true, true, true, true, true, true, true, true, true, true] rfl rfl (by kernel_rfl) (fun _ _ _ h => h) (Or.inl ⟨by rfl, ?_⟩) ?_ ?_
  rotate_left
  · intro w'
    go_simp
    with_reducible rfl
  rotate_left
  · simp only [Act.put, List.setIfInBounds_toArray, List.set_cons_zero, List.set_cons_succ, i64_w, i32_w]
    rfl
  refine done_ (by kernel_rfl) ?_
  go_wp2
  go_ret
  exact ⟨rfl, HB3.out⟩
end Go.Proofs.Ytpejcejkgbbbbaa.P
