import Derived.Test.YtecfndblgefhdaaKzRx0
namespace Go.Proofs.Ytecfndblgefhdaa.R
open Go.RowKit Go.Proofs.YtecfndblgefhdaaW.PrintWords Go.Proofs.YtecfndblgefhdaaW.PrintLast Go.Proofs.YtecfndblgefhdaaW.PrintMore
attribute [local go_sem] max2_int min2_int max_two min_two max_three min_three max_four min_four
set_option linter.unusedVariables false
set_option linter.unusedSimpArgs false
def api_Write_122.l0 : Nat → List (S120) → Int → Int → Int → Int → Option ((List (S120)))
 | 0, _, _, _, _, _ => none
 | k + 1, x0, x1, x2, x3, x10 => if x10 < x3 then (if 0 ≤ (wrap64 (x2 + x10)) then (if (wrap64 (x2 + x10)) < (x0.length : Int) then (if 0 ≤ (wrap64 (x1 + x10)) then (if (wrap64 (x1 + x10)) < (x0.length : Int) then (api_Write_122.l0 k ((x0.set ((wrap64 (x1 + x10)) : Int).toNat (⟨(rd_T120 x0 (wrap64 (x2 + x10))).f0, (rd_T120 x0 (wrap64 (x2 + x10))).f1, (rd_T120 x0 (wrap64 (x2 + x10))).f2⟩ : S120)).set ((wrap64 (x2 + x10)) : Int).toNat (⟨(rd_T120 x0 (wrap64 (x1 + x10))).f0, (rd_T120 x0 (wrap64 (x1 + x10))).f1, (rd_T120 x0 (wrap64 (x1 + x10))).f2⟩ : S120)) x1 x2 x3 (wrap64 (x10 + 1))) else (none)) else (none)) else (none)) else (none)) else (some x0)
def api_Write_122.f (k : Nat) (l0 : List (S120)) (a1 : Int) (a2 : Int) (a3 : Int) (a4 : Nat) : Option ((List (S120))) := api_Write_122.l0 k l0 a1 a2 a3 0
def api_Write_122.T3 : Bool × List (List Nat × List Nat) := (true, [([], []), ([], []), ([], []), ([1, 2], [1, 2]), ([], []), ([], []), ([], []), ([5, 6], [5, 6]), ([], []), ([], []), ([], []), ([9, 10], [9, 10]), ([8, 11], [8, 11]), ([12], [12]), ([], []), ([], []), ([], []), ([15, 16], [15, 16]), ([14, 17], [14, 17]), ([18], [18]), ([0, 3, 0, 1, 2, 3, 8, 9, 10, 11, 12, 13, 19], [0, 3]), ([20, 13, 0, 1, 2, 3, 8, 9, 10, 11, 12, 13, 19], [13, 20]), ([4, 7, 0, 1, 2, 3, 4, 5, 6, 7, 8, 9, 10, 11, 12, 13, 14, 15, 16, 17, 18, 19, 20, 21], [4, 7]), ([22, 19, 21, 0, 1, 2, 3, 4, 5, 6, 7, 8, 9, 10, 11, 12, 13, 14, 15, 16, 17, 18, 19, 20, 21], [19, 22])])
def api_Write_122.B3 : List Nat := [0, 0, 0, 6, 0, 0, 0, 96, 0, 0, 0, 1536, 3840, 7936, 0, 0, 0, 98304, 245760, 507904, 1048335, 2096911, 4194303, 8388607]
theorem api_Write_122.tab3 : rtab .any (opsOf Try.f122 3) = api_Write_122.T3 := by kernel_rfl
theorem api_Write_122.bits3 : waitsOk api_Write_122.T3.2 api_Write_122.B3 = true := by kernel_rfl
set_option maxHeartbeats 8000000 in
set_option maxRecDepth 100000 in
theorem api_Write_122.calls (k : Nat) (P0_ : Nat → Prop) (u9000_ : Value) (l0 : List (S120)) (a1 : Int) (a2 : Int) (a3 : Int) (a4 : Nat) (r : List (S120)) (w0 w : World) (hB : Below w0.heap.size w0 w) (ho0 : Kd.R k120 120 w w0.heap.size P0_ u9000_ l0) (h : api_Write_122.f k l0 a1 a2 a3 a4 = some r) :
  Calls Try.prog 122 #[u9000_, .int .i64 a1, .int .i64 a2, .int .i64 a3, .func (.func a4) #[] #[]] w fun e w' => e = .returned (.tuple #[]) ∧ Kd.R k120 120 w' w0.heap.size (fun k_ => (P0_ k_ ∨ w.heap.size ≤ k_)) u9000_ r ∧ Below w0.heap.size w0 w' ∧ Kept w w' (fun k_ => P0_ k_) := by
 have hu120 := Try.underlying120
 have HO0 := a0_ (show Kd.R k120 120 w w0.heap.size (fun k_ => (P0_ k_ ∨ w.heap.size ≤ k_)) u9000_ l0 from Kd.R_mono ho0 (fun k_ hk => (.inl hk)))
 have HK := a0_ (Kept.refl w (fun k_ => P0_ k_))
 have HW0 := a0_ hB.size
 have HB := a0_ hB
 clear hB
 have H : (api_Write_122.l0 k l0 a1 a2 a3 0) = some r := h
 clear h
 have H' := a0_ H
 clear H
 go_enter Try.func122, Try.ntmps122
 go_wp2
 go_loopg [10] k (fun kq v10 w' => ∃ (x0_1 : List (S120)) (x10_1 : Int), v10 = .int .i64 x10_1 ∧ Aside0 (api_Write_122.l0 kq x0_1 a1 a2 a3 x10_1 = some r) ∧ Aside0 (kq ≤ k) ∧ Aside0 (Kd.R k120 120 w' w0.heap.size (fun k_ => (P0_ k_ ∨ w.heap.size ≤ k_)) u9000_ x0_1) ∧ Aside0 (Kept w w' (fun k_ => P0_ k_)) ∧ Aside0 (Below w0.heap.size w0 w'))
 case atStart => exact ⟨(l0), (0), z4_, H', ⟨Nat.le_refl _⟩, ⟨z76_⟩, ⟨z77_⟩, ⟨z3_⟩⟩
 case round =>
  clear H'
  obtain ⟨x0_1, x10_1, rfl, HA, HK1, HO_0, HK, HB⟩ := hrel
  cases gk with
  | zero => exact absurd HA.out (by simp [api_Write_122.l0])
  | succ k1 =>
   have H := HA.out
   clear HA
   simp only [api_Write_122.l0] at H
   by_cases c6 : x10_1 < a3
   ·rw [if_pos c6] at H
    have c6b0 : decide (x10_1 < a3) = true := decide_eq_true c6
    clear c6
    obtain ⟨ji7, hji7⟩ : ∃ j_ : Int, (wrap64 (a2 + x10_1)) = j_ := ⟨_, rfl⟩
    replace H : (if 0 ≤ (ji7) then (if (ji7) < (x0_1.length : Int) then (if 0 ≤ (wrap64 (a1 + x10_1)) then (if (wrap64 (a1 + x10_1)) < (x0_1.length : Int) then (api_Write_122.l0 k1 ((x0_1.set ((wrap64 (a1 + x10_1)) : Int).toNat (⟨(rd_T120 x0_1 (ji7)).f0, (rd_T120 x0_1 (ji7)).f1, (rd_T120 x0_1 (ji7)).f2⟩ : S120)).set ((ji7) : Int).toNat (⟨(rd_T120 x0_1 (wrap64 (a1 + x10_1))).f0, (rd_T120 x0_1 (wrap64 (a1 + x10_1))).f1, (rd_T120 x0_1 (wrap64 (a1 + x10_1))).f2⟩ : S120)) a1 a2 a3 (wrap64 (x10_1 + 1))) else (none)) else (none)) else (none)) else (none)) = some r := by first | (rw [hji7] at H; exact H) | (simp only [hji7] at H ⊢; exact H)
    have hji7w : (IntKind.i64.wrap (a2 + x10_1)) = ji7 := (i64_w _).trans hji7
    by_cases c8 : 0 ≤ (ji7)
    ·rw [if_pos c8] at H
     have c8b0 : decide (0 ≤ (ji7)) = true := decide_eq_true c8
     clear c8
     by_cases c9 : (ji7) < (x0_1.length : Int)
     ·rw [if_pos c9] at H
      have c9b0 : decide ((ji7) < (x0_1.length : Int)) = true := decide_eq_true c9
      clear c9
      obtain ⟨ji10, hji10⟩ : ∃ j_ : Int, (wrap64 (a1 + x10_1)) = j_ := ⟨_, rfl⟩
      replace H : (if 0 ≤ (ji10) then (if (ji10) < (x0_1.length : Int) then (api_Write_122.l0 k1 ((x0_1.set ((ji10) : Int).toNat (⟨(rd_T120 x0_1 (ji7)).f0, (rd_T120 x0_1 (ji7)).f1, (rd_T120 x0_1 (ji7)).f2⟩ : S120)).set ((ji7) : Int).toNat (⟨(rd_T120 x0_1 (ji10)).f0, (rd_T120 x0_1 (ji10)).f1, (rd_T120 x0_1 (ji10)).f2⟩ : S120)) a1 a2 a3 (wrap64 (x10_1 + 1))) else (none)) else (none)) = some r := by first | (rw [hji10] at H; exact H) | (simp only [hji10] at H ⊢; exact H)
      have hji10w : (IntKind.i64.wrap (a1 + x10_1)) = ji10 := (i64_w _).trans hji10
      by_cases c11 : 0 ≤ (ji10)
      ·rw [if_pos c11] at H
       have c11b0 : decide (0 ≤ (ji10)) = true := decide_eq_true c11
       clear c11
       by_cases c12 : (ji10) < (x0_1.length : Int)
       ·rw [if_pos c12] at H
        have c12b0 : decide ((ji10) < (x0_1.length : Int)) = true := decide_eq_true c12
        clear c12
        obtain ⟨y169, hy169⟩ : ∃ y_ : List (S120), y_ = (x0_1.set ((ji10) : Int).toNat (⟨(rd_T120 x0_1 (ji7)).f0, (rd_T120 x0_1 (ji7)).f1, (rd_T120 x0_1 (ji7)).f2⟩ : S120)) := ⟨_, rfl⟩
        replace H : (api_Write_122.l0 k1 (y169.set ((ji7) : Int).toNat (⟨(rd_T120 x0_1 (ji10)).f0, (rd_T120 x0_1 (ji10)).f1, (rd_T120 x0_1 (ji10)).f2⟩ : S120)) a1 a2 a3 (wrap64 (x10_1 + 1))) = some r := by first | (rw [hy169]; with_reducible exact H) | (have H2_ := (Option.bind_some _ _).symm.trans H; rw [hy169]; with_reducible exact H2_) | (have H2_ := (Option.bind_some _ _).symm.trans H; with_reducible exact H2_) | with_reducible exact H | (rw [hy169]; exact H) | exact H
        have Ny169 := a0_ hy169
        clear hy169
        obtain ⟨y170, hy170⟩ : ∃ y_ : List (S120), y_ = (y169.set ((ji7) : Int).toNat (⟨(rd_T120 x0_1 (ji10)).f0, (rd_T120 x0_1 (ji10)).f1, (rd_T120 x0_1 (ji10)).f2⟩ : S120)) := ⟨_, rfl⟩
        replace H : (api_Write_122.l0 k1 y170 a1 a2 a3 (wrap64 (x10_1 + 1))) = some r := by first | (rw [hy170]; with_reducible exact H) | (have H2_ := (Option.bind_some _ _).symm.trans H; rw [hy170]; with_reducible exact H2_) | (have H2_ := (Option.bind_some _ _).symm.trans H; with_reducible exact H2_) | with_reducible exact H | (rw [hy170]; exact H) | exact H
        have Ny170 := a0_ hy170
        clear hy170
        have H' := a0_ H
        clear H
        try go_wp2
        have n0_ := a0_ (Kd.R_drew HO_0.out)
        have n1_ := a0_ (Kept.drew HK.out)
        have n2_ := a0_ (below_drew1 HB.out)
        clear HO_0
        clear HK
        clear HB
        have HO_0 := n0_
        have HK := n1_
        have HB := n2_
        clear n0_ n1_ n2_
        obtain ⟨Ao16, co16, eo16⟩ := Kd.R_slice HO_0.out
        (first | subst eo16 | (injection eo16 with f1_ f2_ f3_; have f4_ := f1_.symm; have f5_ := f3_.symm; clear f1_ f2_ f3_; subst f4_; subst f5_))
        have p167 : 0 ≤ ((ji7) : Int) := of_decide_eq_true z10_
        have q167 : (ji7) < (x0_1.length : Int) := of_decide_eq_true z10_
        obtain ⟨ad167, e167, hx167_0, hx167_1, hx167_2⟩ := at_T120 (Kd.R_reads' HO_0.out).2.2 (ji7) p167 q167
        cases e167
        replace p167 := eq_true p167
        replace q167 := eq_true q167
        have p168 : 0 ≤ ((ji10) : Int) := of_decide_eq_true z10_
        have q168 : (ji10) < (x0_1.length : Int) := of_decide_eq_true z10_
        obtain ⟨ad168, e168, hx168_0, hx168_1, hx168_2⟩ := at_T120 (Kd.R_reads' HO_0.out).2.2 (ji10) p168 q168
        obtain rfl : ad167 = ad168 := (by injection e168)
        replace p168 := eq_true p168
        replace q168 := eq_true q168
        have p13 : 0 ≤ ((ji10) : Int) := of_decide_eq_true z10_
        have q13 : ((ji10) : Int) < ((x0_1.length : Int) : Int) := of_decide_eq_true z10_
        obtain ⟨go13, co13, eo13, gb13, gl13, cl13, HG13⟩ := Kd.R_form HO_0.out z7_
        (first | cases eo13 | (injection eo13 with ea_ en_ ec_; (first | subst ea_ | (injection ea_ with ea_; subst ea_)); subst ec_; clear en_))
        have GB13 := a0_ gb13
        have GG13 := a0_ HG13
        clear gb13 gl13 HG13
        have HMgo13 := a0_ (show (P0_ go13 ∨ w.heap.size ≤ go13) from (HO_0.out.1 _ rfl))
        (first | simp only [add_plain] at hx167_0 | skip)
        (first | simp only [add_plain] at hx167_1 | skip)
        (first | simp only [add_plain] at hx167_2 | skip)
        (first | simp only [add_plain] at hx168_0 | skip)
        (first | simp only [add_plain] at hx168_1 | skip)
        (first | simp only [add_plain] at hx168_2 | skip)
        obtain ⟨ce13, hcl13, hM13, hcc13, hfr13⟩ := Kd.R_elem HO_0.out z120 ((ji10) : Int) p13 q13
        obtain rfl := k120_openM hM13
        have hx13_0 : World.cell? _ ⟨go13, ((ji10) : Int).toNat * 3, none⟩ = some (.int .i64 ((rd_T120 x0_1 (ji10)).f0)) := hcc13 0 _ rfl
        have hx13_1 : World.cell? _ ⟨go13, ((ji10) : Int).toNat * 3 + 1, none⟩ = some (.int .i64 ((rd_T120 x0_1 (ji10)).f1)) := hcc13 1 _ rfl
        have hx13_2 : World.cell? _ ⟨go13, ((ji10) : Int).toNat * 3 + 2, none⟩ = some (.string ((rd_T120 x0_1 (ji10)).f2)) := hcc13 2 _ rfl
        have hf13_0 : World.frozen? _ ⟨go13, ((ji10) : Int).toNat * 3, none⟩ = false := hfr13 0
        have hf13_1 : World.frozen? _ ⟨go13, ((ji10) : Int).toNat * 3 + 1, none⟩ = false := hfr13 1
        have hf13_2 : World.frozen? _ ⟨go13, ((ji10) : Int).toNat * 3 + 2, none⟩ = false := hfr13 2
        clear hcl13 hcc13 hfr13 hM13
        replace p13 := eq_true p13
        replace q13 := eq_true q13
        obtain ⟨ce17, hcl17, hM17, hcc17, hfr17⟩ := Kd.R_elem HO_0.out z120 ((ji10) : Int) (of_decide_eq_true z10_) (by have h_ : ((ji10) : Int) < ((x0_1.length : Int) : Int) := of_decide_eq_true z10_; first | exact h_ | (have e_ := (Kd.R_reads' HO_0.out).1; omega) | simpa using h_)
        obtain rfl := k120_openM hM17
        have HP17 := (Kd.R_seg HO_0.out ((ji10) : Int) (of_decide_eq_true z10_) (by have h_ : ((ji10) : Int) < ((x0_1.length : Int) : Int) := of_decide_eq_true z10_; first | exact h_ | (have e_ := (Kd.R_reads' HO_0.out).1; omega) | simpa using h_) (seg := [.int .i64 ((rd_T120 x0_1 (ji7)).f0), .int .i64 ((rd_T120 x0_1 (ji7)).f1), .string ((rd_T120 x0_1 (ji7)).f2)]) (j := 0) hcl17 hcc17 (show 3 ≤ 3 from z8_) (x' := (⟨(rd_T120 x0_1 (ji7)).f0, (rd_T120 x0_1 (ji7)).f1, (rd_T120 x0_1 (ji7)).f2⟩ : S120)) (k120_mkM _ _ _ (⟨(rd_T120 x0_1 (ji7)).f0, (rd_T120 x0_1 (ji7)).f1, (rd_T120 x0_1 (ji7)).f2⟩ : S120) ) (fun _ hk => hk)).1
        rw [← Ny169.out] at HP17
        have HQ17 := a0_ HP17
        clear hcl17 hcc17 hfr17 hM17 HP17
        have p14 : 0 ≤ ((ji7) : Int) := of_decide_eq_true z10_
        have q14 : ((ji7) : Int) < ((x0_1.length : Int) : Int) := of_decide_eq_true z10_
        obtain ⟨ce14, hcl14, hM14, hcc14, hfr14⟩ := Kd.R_elem HQ17.out z120 ((ji7) : Int) p14 q14
        obtain rfl := k120_openM hM14
        have hx14_0 : World.cell? _ ⟨go13, ((ji7) : Int).toNat * 3, none⟩ = some (.int .i64 ((rd_T120 y169 (ji7)).f0)) := hcc14 0 _ rfl
        have hx14_1 : World.cell? _ ⟨go13, ((ji7) : Int).toNat * 3 + 1, none⟩ = some (.int .i64 ((rd_T120 y169 (ji7)).f1)) := hcc14 1 _ rfl
        have hx14_2 : World.cell? _ ⟨go13, ((ji7) : Int).toNat * 3 + 2, none⟩ = some (.string ((rd_T120 y169 (ji7)).f2)) := hcc14 2 _ rfl
        have hf14_0 : World.frozen? _ ⟨go13, ((ji7) : Int).toNat * 3, none⟩ = false := hfr14 0
        have hf14_1 : World.frozen? _ ⟨go13, ((ji7) : Int).toNat * 3 + 1, none⟩ = false := hfr14 1
        have hf14_2 : World.frozen? _ ⟨go13, ((ji7) : Int).toNat * 3 + 2, none⟩ = false := hfr14 2
        clear hcl14 hcc14 hfr14 hM14
        replace p14 := eq_true p14
        replace q14 := eq_true q14
        obtain ⟨ce18, hcl18, hM18, hcc18, hfr18⟩ := Kd.R_elem HQ17.out z120 ((ji7) : Int) (of_decide_eq_true z10_) (by have h_ : ((ji7) : Int) < ((x0_1.length : Int) : Int) := of_decide_eq_true z10_; first | exact h_ | (have e_ := (Kd.R_reads' HO_0.out).1; omega) | simpa using h_)
        obtain rfl := k120_openM hM18
        have HP18 := (Kd.R_seg HQ17.out ((ji7) : Int) (of_decide_eq_true z10_) (by have h_ : ((ji7) : Int) < ((x0_1.length : Int) : Int) := of_decide_eq_true z10_; first | exact h_ | (have e_ := (Kd.R_reads' HO_0.out).1; omega) | simpa using h_) (seg := [.int .i64 ((rd_T120 x0_1 (ji10)).f0), .int .i64 ((rd_T120 x0_1 (ji10)).f1), .string ((rd_T120 x0_1 (ji10)).f2)]) (j := 0) hcl18 hcc18 (show 3 ≤ 3 from z8_) (x' := (⟨(rd_T120 x0_1 (ji10)).f0, (rd_T120 x0_1 (ji10)).f1, (rd_T120 x0_1 (ji10)).f2⟩ : S120)) (k120_mkM _ _ _ (⟨(rd_T120 x0_1 (ji10)).f0, (rd_T120 x0_1 (ji10)).f1, (rd_T120 x0_1 (ji10)).f2⟩ : S120) ) (fun _ hk => hk)).1
        rw [← Ny170.out] at HP18
        have HQ18 := a0_ HP18
        clear hcl18 hcc18 hfr18 hM18 HP18
        refine st_ 24 (S := fun w' => w'.cell? ⟨go13, (((ji7)).toNat * 3), none⟩ = some (.int .i64 ((rd_T120 x0_1 (ji7)).f0)) ∧ w'.cell? ⟨go13, (((ji7)).toNat * 3) + 1, none⟩ = some (.int .i64 ((rd_T120 x0_1 (ji7)).f1)) ∧ w'.cell? ⟨go13, (((ji7)).toNat * 3) + 2, none⟩ = some (.string ((rd_T120 x0_1 (ji7)).f2)) ∧ w'.cell? ⟨go13, (((ji10)).toNat * 3), none⟩ = some (.int .i64 ((rd_T120 x0_1 (ji10)).f0)) ∧ w'.cell? ⟨go13, (((ji10)).toNat * 3) + 1, none⟩ = some (.int .i64 ((rd_T120 x0_1 (ji10)).f1)) ∧ w'.cell? ⟨go13, (((ji10)).toNat * 3) + 2, none⟩ = some (.string ((rd_T120 x0_1 (ji10)).f2))) (ds := [21, 23]) ⟨hx167_0, hx167_1, hx167_2, hx168_0, hx168_1, hx168_2⟩ (fun hHeld => ?_); refine with_tabW api_Write_122.tab3 api_Write_122.bits3 (fun HT_ HW_ => ?_)
        generalize wr.drew = w15 at HO_0 HK HB GG13 HQ17 HQ18 hf13_0 hf13_1 hf13_2 hf14_0 hf14_1 hf14_2 hx13_0 hx13_1 hx13_2 hx14_0 hx14_1 hx14_2 hx167_0 hx167_1 hx167_2 hx168_0 hx168_1 hx168_2 hHeld ⊢
        refine pq_ 0 (some 16) rfl rfl ?_
        refine pq_ 1 (some 17) rfl rfl ?_
        refine pq_ 2 (some 18) rfl rfl ?_
        refine pq_ 3 (some 19) rfl rfl ?_
        refine pq_ 4 (some 20) rfl rfl ?_
        refine pq_ 5 (some 21) rfl rfl ?_
        refine pq_ 6 (some 22) rfl rfl ?_
        refine pq_ 7 (some 23) rfl rfl ?_
        refine pq_ 8 (some 24) rfl rfl ?_
        refine pq_ 9 (some 25) rfl rfl ?_
        refine pq_ 10 (some 26) rfl rfl ?_
        refine pq_ 11 (some 27) rfl rfl ?_
        refine pq_ 12 (some 28) rfl rfl ?_
        refine pq_ 14 (some 30) rfl rfl ?_
        refine pq_ 15 (some 31) rfl rfl ?_
        refine pq_ 16 (some 32) rfl rfl ?_
        refine pq_ 17 (some 33) rfl rfl ?_
        refine pq_ 18 (some 34) rfl rfl ?_
        refine tq_ 13 (some 29) rfl rfl hHeld ?_
        refine tq_ 19 (some 35) rfl rfl hHeld ?_
        refine pq_ 20 (some 36) rfl rfl ?_
        refine lq_ 21 (none) rfl rfl (fun K hK => ?_)
        refine skip_ (w1 := ?_) (by rfl) rfl ?_ ?_
        rotate_left
        ·go_simp
         rfl
        refine hK.out _ _ ?_
        clear hK K
        have hkK_ : Aside0 (Kept _ (World.setCells w15 go13 ((((ji10) : Int)).toNat * k120.sz + 0) [.int .i64 ((rd_T120 x0_1 (ji7)).f0), .int .i64 ((rd_T120 x0_1 (ji7)).f1), .string ((rd_T120 x0_1 (ji7)).f2)]) _) := ⟨(Kept.setCell (Kept.setCell (Kept.setCell HK.out HMgo13.out _) HMgo13.out _) HMgo13.out _)⟩
        have hkB_ : Aside0 (Below _ _ (World.setCells w15 go13 ((((ji10) : Int)).toNat * k120.sz + 0) [.int .i64 ((rd_T120 x0_1 (ji7)).f0), .int .i64 ((rd_T120 x0_1 (ji7)).f1), .string ((rd_T120 x0_1 (ji7)).f2)])) := ⟨(below_set (below_set (below_set HB.out GB13.out) GB13.out) GB13.out)⟩
        show wpAnyLast _ _ _ _ _ _ _ _ _ (World.setCells w15 go13 ((((ji10) : Int)).toNat * k120.sz + 0) [.int .i64 ((rd_T120 x0_1 (ji7)).f0), .int .i64 ((rd_T120 x0_1 (ji7)).f1), .string ((rd_T120 x0_1 (ji7)).f2)])
        generalize (World.setCells w15 go13 ((((ji10) : Int)).toNat * k120.sz + 0) [.int .i64 ((rd_T120 x0_1 (ji7)).f0), .int .i64 ((rd_T120 x0_1 (ji7)).f1), .string ((rd_T120 x0_1 (ji7)).f2)]) = wS_ at hkK_ hkB_ HQ17 HQ18 hx14_0 hx14_1 hx14_2 hf14_0 hf14_1 hf14_2 ⊢
        clear HK HB
        have HK := hkK_
        have HB := hkB_
        clear hkK_ hkB_ hHeld
        refine pq_ 22 (some 37) rfl rfl ?_
        refine lq_ 23 (none) rfl rfl (fun K hK => ?_)
        refine skip_ (w1 := ?_) (by rfl) rfl ?_ ?_
        rotate_left
        ·go_simp
         rfl
        refine hK.out _ _ ?_
        clear hK K
        refine done_ (done_of HT_.out z6_) ?_
        try go_wp2
        go_roundg k1
        case measure => have := HK1.out; omega
        case rel => exact ⟨(y170), (wrap64 (x10_1 + 1)), z4_, H', ⟨z39_⟩, ⟨by (with_reducible repeat (first | apply Kd.R_alloc | apply Kd.R_drewN | apply Kd.R_drew)); exact HQ18.out⟩, ⟨by repeat (first | (with_reducible first | exact HK.out | apply Kept.alloc | apply Kept.drewN | apply Kept.drew | refine Kept.setCell ?_ HMgo13.out _ | refine Kept.setCell ?_ HMgo13.out _ | refine Kept.setCell ?_ HMgo13.out _ | refine Kept.setCell ?_ HMgo13.out _ | refine Kept.setCell ?_ HMgo13.out _ | refine Kept.setCell ?_ HMgo13.out _) | exact HK.out)⟩, ⟨by repeat (first | (with_reducible first | exact HB.out | apply below_alloc | apply pw_below_drewN | apply below_drew1 | refine below_set ?_ GB13.out | refine below_set ?_ GB13.out | refine below_set ?_ GB13.out | refine below_set ?_ GB13.out | refine below_set ?_ GB13.out | refine below_set ?_ GB13.out) | exact HB.out)⟩⟩
       ·rw [if_neg c12] at H
        exact absurd H (by simp)
      ·rw [if_neg c11] at H
       exact absurd H (by simp)
     ·rw [if_neg c9] at H
      exact absurd H (by simp)
    ·rw [if_neg c8] at H
     exact absurd H (by simp)
   ·rw [if_neg c6] at H
    have c6b0 : decide (x10_1 < a3) = false := decide_eq_false c6
    clear c6
    obtain rfl := Option.some.inj H
    go_wp2
    first | go_end0 | ((try simp only [Exit.inBlock, Exit.then]); refine bodyPost_ret (results_none rfl _ _ _) rfl ?_)
    exact ⟨z2_, z78_, z3_, z77_⟩
def api_Write_120.l0 : Nat → List (S120) → Int → Nat → Int → Int → Option ((List (S120)))
 | 0, _, _, _, _, _ => none
 | k + 1, x0, x2, x4, x10, x11 => if x10 = x11 then ((api_Write_122.f k x0 (wrap64 (x2 - x10)) x2 x10 x4).bind fun t171 => (some t171)) else (if x10 > x11 then ((api_Write_122.f k x0 (wrap64 (x2 - x10)) x2 x11 x4).bind fun t172 => (api_Write_120.l0 k t172 x2 x4 (wrap64 (x10 - x11)) x11)) else ((api_Write_122.f k x0 (wrap64 (x2 - x10)) (wrap64 ((wrap64 (x2 + x11)) - x10)) x10 x4).bind fun t173 => (api_Write_120.l0 k t173 x2 x4 x10 (wrap64 (x11 - x10)))))
def api_Write_120.f (k : Nat) (l0 : List (S120)) (a1 : Int) (a2 : Int) (a3 : Int) (a4 : Nat) : Option ((List (S120))) := api_Write_120.l0 k l0 a2 a4 (wrap64 (a2 - a1)) (wrap64 (a3 - a2))
set_option maxHeartbeats 8000000 in
set_option maxRecDepth 100000 in
theorem api_Write_120.calls (k : Nat) (P0_ : Nat → Prop) (u9000_ : Value) (l0 : List (S120)) (a1 : Int) (a2 : Int) (a3 : Int) (a4 : Nat) (r : List (S120)) (w0 w : World) (hB : Below w0.heap.size w0 w) (ho0 : Kd.R k120 120 w w0.heap.size P0_ u9000_ l0) (h : api_Write_120.f k l0 a1 a2 a3 a4 = some r) :
  Calls Try.prog 120 #[u9000_, .int .i64 a1, .int .i64 a2, .int .i64 a3, .func (.func a4) #[] #[]] w fun e w' => e = .returned (.tuple #[]) ∧ Kd.R k120 120 w' w0.heap.size (fun k_ => (P0_ k_ ∨ w.heap.size ≤ k_)) u9000_ r ∧ Below w0.heap.size w0 w' ∧ Kept w w' (fun k_ => P0_ k_) := by
 have HO0 := a0_ (show Kd.R k120 120 w w0.heap.size (fun k_ => (P0_ k_ ∨ w.heap.size ≤ k_)) u9000_ l0 from Kd.R_mono ho0 (fun k_ hk => (.inl hk)))
 have HK := a0_ (Kept.refl w (fun k_ => P0_ k_))
 have HW0 := a0_ hB.size
 have HB := a0_ hB
 clear hB
 have H : (api_Write_120.l0 k l0 a2 a4 (wrap64 (a2 - a1)) (wrap64 (a3 - a2))) = some r := h
 clear h
 have H' := a0_ H
 clear H
 go_enter Try.func120, Try.ntmps120
 go_wp2
 go_loopg [10, 11] k (fun kq v10 v11 w' => ∃ (x0_1 : List (S120)) (x10_1 : Int) (x11_1 : Int), v10 = .int .i64 x10_1 ∧ v11 = .int .i64 x11_1 ∧ Aside0 (api_Write_120.l0 kq x0_1 a2 a4 x10_1 x11_1 = some r) ∧ Aside0 (kq ≤ k) ∧ Aside0 (Kd.R k120 120 w' w0.heap.size (fun k_ => (P0_ k_ ∨ w.heap.size ≤ k_)) u9000_ x0_1) ∧ Aside0 (Kept w w' (fun k_ => P0_ k_)) ∧ Aside0 (Below w0.heap.size w0 w'))
 case atStart => exact ⟨(l0), (wrap64 (a2 - a1)), (wrap64 (a3 - a2)), z4_, z4_, H', ⟨Nat.le_refl _⟩, ⟨z76_⟩, ⟨z77_⟩, ⟨z3_⟩⟩
 case round =>
  clear H'
  obtain ⟨x0_1, x10_1, x11_1, rfl, rfl, HA, HK1, HO_0, HK, HB⟩ := hrel
  cases gk with
  | zero => exact absurd HA.out (by simp [api_Write_120.l0])
  | succ k1 =>
   have H := HA.out
   clear HA
   simp only [api_Write_120.l0] at H
   by_cases c6 : x10_1 = x11_1
   ·rw [if_pos c6] at H
    have c6b0 : (x10_1 == x11_1) = true := beq_iff_eq.mpr c6
    have c6b1 : (x10_1 != x11_1) = false := bne_eq_false_iff_eq.mpr c6
    clear c6
    replace H := Option.bind_eq_some_iff.mp H
    obtain ⟨t171, A70, H⟩ := H
    try dsimp only at H
    have A7 := a0_ A70
    clear A70
    obtain rfl := Option.some.inj H
    obtain ⟨Ao8, co8, eo8⟩ := Kd.R_slice HO_0.out
    subst eo8
    go_wp2_with (first | ((with_reducible refine gate_callee (f := 122) rfl ?_); refine goesL_ (some 57) rfl rfl Try.func122 z6_ rfl #[.slice Ao8 x0_1.length co8, .int .i64 (wrap64 (a2 - x10_1)), .int .i64 a2, .int .i64 x10_1, .func (.func a4) #[] #[]] rfl z16_ ?_; (with_reducible refine (api_Write_122.calls k1 (fun k_ => some k_ = (.slice Ao8 x0_1.length co8 : Value).ownBlock) (.slice Ao8 x0_1.length co8) x0_1 (wrap64 (a2 - x10_1)) a2 x10_1 a4 t171 w0 _ ?side1 ?side2 A7.out).mono ?_); (case side1 => exact z3_); (case side2 => exact z81_); rintro e w9 ⟨rfl, hy0, hb, hkp⟩; refine ⟨_, rfl, ?_⟩; have n0_ := a0_ (Kd.R_reok rfl hy0 (fun k_ e_ => HO_0.out.1 k_ e_)); have n1_ := a0_ (Kept.then_ (S := (fun k_ => P0_ k_)) z77_ hkp (fun k_ hs_ => (fun e_ => (HO_0.out.1 k_ e_.symm)) hs_)); have n2_ := a0_ (hb); clear HO_0; clear HK; clear HB; have HO_0 := n0_; have HK := n1_; have HB := n2_; clear n0_ n1_ n2_; (try clear hb); (try clear hkp); (try clear hy0)))
    first | go_end0 | ((try simp only [Exit.inBlock, Exit.then]); refine bodyPost_ret (results_none rfl _ _ _) rfl ?_)
    exact ⟨z2_, z78_, z3_, z77_⟩
   ·rw [if_neg c6] at H
    have c6b0 : (x10_1 == x11_1) = false := beq_eq_false_iff_ne.mpr c6
    have c6b1 : (x10_1 != x11_1) = true := bne_iff_ne.mpr c6
    by_cases c10 : x10_1 > x11_1
    ·rw [if_pos c10] at H
     have c10b0 : decide (x11_1 < x10_1) = true := decide_eq_true c10
     clear c10
     replace H := Option.bind_eq_some_iff.mp H
     obtain ⟨t172, A110, H⟩ := H
     try dsimp only at H
     have A11 := a0_ A110
     clear A110
     have H' := a0_ H
     clear H
     obtain ⟨Ao12, co12, eo12⟩ := Kd.R_slice HO_0.out
     subst eo12
     go_wp2_with (first | ((with_reducible refine gate_callee (f := 122) rfl ?_); refine goesL_ (some 31) rfl rfl Try.func122 z6_ rfl #[.slice Ao12 x0_1.length co12, .int .i64 (wrap64 (a2 - x10_1)), .int .i64 a2, .int .i64 x11_1, .func (.func a4) #[] #[]] rfl z16_ ?_; (with_reducible refine (api_Write_122.calls k1 (fun k_ => some k_ = (.slice Ao12 x0_1.length co12 : Value).ownBlock) (.slice Ao12 x0_1.length co12) x0_1 (wrap64 (a2 - x10_1)) a2 x11_1 a4 t172 w0 _ ?side1 ?side2 A11.out).mono ?_); (case side1 => exact z3_); (case side2 => exact z81_); rintro e w13 ⟨rfl, hy0, hb, hkp⟩; refine ⟨_, rfl, ?_⟩; have n0_ := a0_ (Kd.R_reok rfl hy0 (fun k_ e_ => HO_0.out.1 k_ e_)); have n1_ := a0_ (Kept.then_ (S := (fun k_ => P0_ k_)) z77_ hkp (fun k_ hs_ => (fun e_ => (HO_0.out.1 k_ e_.symm)) hs_)); have n2_ := a0_ (hb); clear HO_0; clear HK; clear HB; have HO_0 := n0_; have HK := n1_; have HB := n2_; clear n0_ n1_ n2_; (try clear hb); (try clear hkp); (try clear hy0)))
     go_roundg k1
     case measure => have := HK1.out; omega
     case rel => exact ⟨(t172), (wrap64 (x10_1 - x11_1)), (x11_1), z4_, z4_, H', ⟨z39_⟩, ⟨z78_⟩, ⟨z77_⟩, ⟨z3_⟩⟩
    ·rw [if_neg c10] at H
     have c10b0 : decide (x11_1 < x10_1) = false := decide_eq_false c10
     clear c10
     replace H := Option.bind_eq_some_iff.mp H
     obtain ⟨t173, A140, H⟩ := H
     try dsimp only at H
     have A14 := a0_ A140
     clear A140
     have H' := a0_ H
     clear H
     obtain ⟨Ao15, co15, eo15⟩ := Kd.R_slice HO_0.out
     subst eo15
     go_wp2_with (first | ((with_reducible refine gate_callee (f := 122) rfl ?_); refine goesL_ (some 46) rfl rfl Try.func122 z6_ rfl #[.slice Ao15 x0_1.length co15, .int .i64 (wrap64 (a2 - x10_1)), .int .i64 (wrap64 ((wrap64 (a2 + x11_1)) - x10_1)), .int .i64 x10_1, .func (.func a4) #[] #[]] rfl z16_ ?_; (with_reducible refine (api_Write_122.calls k1 (fun k_ => some k_ = (.slice Ao15 x0_1.length co15 : Value).ownBlock) (.slice Ao15 x0_1.length co15) x0_1 (wrap64 (a2 - x10_1)) (wrap64 ((wrap64 (a2 + x11_1)) - x10_1)) x10_1 a4 t173 w0 _ ?side1 ?side2 A14.out).mono ?_); (case side1 => exact z3_); (case side2 => exact z81_); rintro e w16 ⟨rfl, hy0, hb, hkp⟩; refine ⟨_, rfl, ?_⟩; have n0_ := a0_ (Kd.R_reok rfl hy0 (fun k_ e_ => HO_0.out.1 k_ e_)); have n1_ := a0_ (Kept.then_ (S := (fun k_ => P0_ k_)) z77_ hkp (fun k_ hs_ => (fun e_ => (HO_0.out.1 k_ e_.symm)) hs_)); have n2_ := a0_ (hb); clear HO_0; clear HK; clear HB; have HO_0 := n0_; have HK := n1_; have HB := n2_; clear n0_ n1_ n2_; (try clear hb); (try clear hkp); (try clear hy0)))
     go_roundg k1
     case measure => have := HK1.out; omega
     case rel => exact ⟨(t173), (x10_1), (wrap64 (x11_1 - x10_1)), z4_, z4_, H', ⟨z39_⟩, ⟨z78_⟩, ⟨z77_⟩, ⟨z3_⟩⟩
end Go.Proofs.Ytecfndblgefhdaa.R
