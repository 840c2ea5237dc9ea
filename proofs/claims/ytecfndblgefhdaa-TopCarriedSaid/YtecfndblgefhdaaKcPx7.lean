import Derived.Test.YtecfndblgefhdaaKcPx1
namespace Go.Proofs.Ytecfndblgefhdaa.P
open Go.RowKit Go.Proofs.YtecfndblgefhdaaW.PrintWords Go.Proofs.YtecfndblgefhdaaW.PrintLast Go.Proofs.YtecfndblgefhdaaW.PrintMore
attribute [local go_sem] max2_int min2_int max_two min_two max_three min_three max_four min_four
set_option linter.unusedVariables false
set_option linter.unusedSimpArgs false
theorem qpx70_ {p : Prop} (h : p := by exact ⟨z3_, z6_⟩) : p := h
mutual
def octet_Put.j0 : Nat → Int → Int → Bool → Option (ByteArray × Int)
 | 0, _, _, _ => none
 | k + 1, x0, x1, x13 => if x13 = true then (some ((⟨#[]⟩ : ByteArray), 1)) else (if x0 < 0 then (octet_Put.j1 k x0 x1 true) else (if x1 < 8 then (if 0 ≤ (wrap64 (8 * x1)) then (octet_Put.j1 k x0 x1 ((shr .i64 x0 (wrap64 (8 * x1))) != 0)) else (none)) else (octet_Put.j1 k x0 x1 false)))
def octet_Put.j1 : Nat → Int → Int → Bool → Option (ByteArray × Int)
 | 0, _, _, _ => none
 | k + 1, x0, x1, x26 => if x26 = true then (some ((⟨#[]⟩ : ByteArray), 10)) else (if 0 ≤ x1 then (if (x1 : Int).toNat ≤ 281474976710656 then ((some (List.replicate (x1 : Int).toNat 0 : List Int)).bind fun y163 => (octet_Put.l0 k x0 x1 y163 (y163.length : Int) 0)) else (none)) else (none))
def octet_Put.l0 : Nat → Int → Int → List Int → Int → Int → Option (ByteArray × Int)
 | 0, _, _, _, _, _ => none
 | k + 1, x0, x1, x6, x30, x31 => if x31 < x30 then (if 0 ≤ (wrap64 (8 * (wrap64 ((wrap64 (x1 - 1)) - x31)))) then (if 0 ≤ x31 then (if x31 < (x6.length : Int) then (octet_Put.l0 k x0 x1 (x6.set (x31 : Int).toNat ((shr .i64 x0 (wrap64 (8 * (wrap64 ((wrap64 (x1 - 1)) - x31))))) % 256)) x30 (wrap64 (x31 + 1))) else (none)) else (none)) else (none)) else (some (strOfNums x6, 0))
end
def octet_Put.f (k : Nat) (a0 : Int) (a1 : Int) : Option (ByteArray × Int) := if a1 < 1 then (octet_Put.j0 k a0 a1 true) else (octet_Put.j0 k a0 a1 (decide (a1 > 8)))
set_option maxHeartbeats 8000000 in
set_option maxRecDepth 100000 in
theorem octet_Put.calls (k : Nat) (a0 : Int) (a1 : Int) (r1 : ByteArray) (r2 : Int) (w : World) (h : octet_Put.f k a0 a1 = some (r1, r2)) :
  Calls Try.prog 80 #[.int .i64 a0, .int .i64 a1] w fun e w' => e = .returned (.tuple #[.string r1, .int .i64 r2]) ∧ Below w.heap.size w w' := by
 have HB := a0_ (Below.refl w.heap.size w)
 have H : (if a1 < 1 then (octet_Put.j0 k a0 a1 true) else (octet_Put.j0 k a0 a1 (decide (a1 > 8)))) = some (r1, r2) := h
 clear h
 have HC3 := a0_ H
 clear H
 go_enter Try.func80, Try.ntmps80
 go_upto_region 1 with (fail)
 go_cut [13] (fun v13 wc => ∃ (kq : Nat) (x13_2 : Bool), v13 = .bool x13_2 ∧ Aside0 (octet_Put.j0 kq a0 a1 x13_2 = some (r1, r2)) ∧ Aside0 (kq ≤ k) ∧ Aside0 (Below w.heap.size w wc))
 case first =>
  have H := HC3.out
  clear HC3
  by_cases c4 : a1 < 1
  ·rw [if_pos c4] at H
   have c4b0 : decide (a1 < 1) = true := decide_eq_true c4
   clear c4
   (first | rw [c4b0] | (simp only [i64_w, i32_w]; rw [c4b0]) | skip)
   have H' := a0_ H
   clear H
   go_wp2
   go_meet
   case rel => exact ⟨_, (true), z9_, H', ⟨z18_⟩, ⟨z6_⟩⟩
  ·rw [if_neg c4] at H
   have c4b0 : decide (a1 < 1) = false := decide_eq_false c4
   clear c4
   (first | rw [c4b0] | (simp only [i64_w, i32_w]; rw [c4b0]) | skip)
   have H' := a0_ H
   clear H
   go_wp2
   go_meet
   case rel => exact ⟨_, (decide (a1 > 8)), z9_, H', ⟨z18_⟩, ⟨z6_⟩⟩
 case rest =>
  clear HC3
  obtain ⟨kq, x13_2, rfl, HA, HJ2, HB⟩ := hcut
  cases kq with
  | zero => exact absurd HA.out (by simp [octet_Put.j0])
  | succ kj2 =>
   have H := HA.out
   clear HA
   simp only [octet_Put.j0] at H
   by_cases c5 : x13_2 = true
   ·subst c5
    rw [if_pos rfl] at H
    simp only [Option.some.injEq, Prod.mk.injEq] at H
    obtain ⟨rfl, rfl⟩ := H
    go_wp2
    go_ret2
    exact qpx70_
   ·replace c5 := Bool.eq_false_iff.mpr c5
    subst c5
    rw [if_neg (show ¬ (false = true) from z17_)] at H
    have HC6 := a0_ H
    clear H
    go_upto_region 3 with (fail)
    go_cut [26] (fun v26 wc => ∃ (kq : Nat) (x26_5 : Bool), v26 = .bool x26_5 ∧ Aside0 (octet_Put.j1 kq a0 a1 x26_5 = some (r1, r2)) ∧ Aside0 (kq ≤ kj2) ∧ Aside0 (Below w.heap.size w wc))
    case first =>
     have H := HC6.out
     clear HC6
     by_cases c7 : a0 < 0
     ·rw [if_pos c7] at H
      have c7b0 : decide (a0 < 0) = true := decide_eq_true c7
      clear c7
      (first | rw [c7b0] | (simp only [i64_w, i32_w]; rw [c7b0]) | skip)
      have H' := a0_ H
      clear H
      go_wp2
      go_meet
      case rel => exact ⟨_, (true), z9_, H', ⟨z66_⟩, ⟨z6_⟩⟩
     ·rw [if_neg c7] at H
      have c7b0 : decide (a0 < 0) = false := decide_eq_false c7
      clear c7
      (first | rw [c7b0] | (simp only [i64_w, i32_w]; rw [c7b0]) | skip)
      by_cases c8 : a1 < 8
      ·rw [if_pos c8] at H
       have c8b0 : decide (a1 < 8) = true := decide_eq_true c8
       clear c8
       obtain ⟨ji9, hji9⟩ : ∃ j_ : Int, (wrap64 (8 * a1)) = j_ := ⟨_, rfl⟩
       replace H : (if 0 ≤ (ji9) then (octet_Put.j1 kj2 a0 a1 ((shr .i64 a0 (ji9)) != 0)) else (none)) = some (r1, r2) := by first | (rw [hji9] at H; exact H) | (simp only [hji9] at H ⊢; exact H)
       have hji9w : (IntKind.i64.wrap (8 * a1)) = ji9 := (i64_w _).trans hji9
       by_cases c10 : 0 ≤ (ji9)
       ·rw [if_pos c10] at H
        have c10b0 := eq_true c10
        have c10b1 : decide (0 ≤ (ji9)) = true := decide_eq_true c10
        clear c10
        obtain ⟨ji11, hji11⟩ : ∃ j_ : Int, (shr .i64 a0 (ji9)) = j_ := ⟨_, rfl⟩
        replace H : (octet_Put.j1 kj2 a0 a1 ((ji11) != 0)) = some (r1, r2) := by first | (rw [hji11] at H; exact H) | (simp only [hji11] at H ⊢; exact H)
        have hji11_ : (a0 / 2 ^ min (ji9).toNat 64) = ji11 := hji11
        have hji11z : (ji9) ≤ 64 → (a0 / 2 ^ (ji9).toNat) = ji11 := shr_small hji11
        have H' := a0_ H
        clear H
        go_wp2
        go_meet
        case rel => exact ⟨_, (((ji11) != 0)), (by first | rfl | (simp; done) | (simp only [← hji11] <;> (first | rfl | simp)) | (simp [*]; done)), H', ⟨z66_⟩, ⟨z6_⟩⟩
       ·rw [if_neg c10] at H
        exact absurd H (by simp)
      ·rw [if_neg c8] at H
       have c8b0 : decide (a1 < 8) = false := decide_eq_false c8
       clear c8
       have H' := a0_ H
       clear H
       go_wp2
       go_meet
       case rel => exact ⟨_, (false), z9_, H', ⟨z66_⟩, ⟨z6_⟩⟩
    case rest =>
     clear HC6
     obtain ⟨kq, x26_5, rfl, HA, HJ5, HB⟩ := hcut
     cases kq with
     | zero => exact absurd HA.out (by simp [octet_Put.j1])
     | succ kj5 =>
      have H := HA.out
      clear HA
      simp only [octet_Put.j1] at H
      by_cases c12 : x26_5 = true
      ·subst c12
       rw [if_pos rfl] at H
       simp only [Option.some.injEq, Prod.mk.injEq] at H
       obtain ⟨rfl, rfl⟩ := H
       go_wp2
       go_ret2
       exact qpx70_
      ·replace c12 := Bool.eq_false_iff.mpr c12
       subst c12
       rw [if_neg (show ¬ (false = true) from z17_)] at H
       by_cases c13 : 0 ≤ a1
       ·rw [if_pos c13] at H
        have c13b0 := eq_true c13
        have c13b1 : decide (0 ≤ a1) = true := decide_eq_true c13
        clear c13
        by_cases c14 : (a1 : Int).toNat ≤ 281474976710656
        ·rw [if_pos c14] at H
         have c14b0 := eq_true c14
         have c14b1 : decide ((a1 : Int).toNat ≤ 281474976710656) = true := decide_eq_true c14
         clear c14
         obtain ⟨y163, hy163⟩ : ∃ y_ : List Int, y_ = (List.replicate (a1 : Int).toNat 0) := ⟨_, rfl⟩
         replace H : (octet_Put.l0 kj5 a0 a1 y163 (y163.length : Int) 0) = some (r1, r2) := by first | (rw [hy163]; with_reducible exact H) | (have H2_ := (Option.bind_some _ _).symm.trans H; rw [hy163]; with_reducible exact H2_) | (have H2_ := (Option.bind_some _ _).symm.trans H; with_reducible exact H2_) | with_reducible exact H | (rw [hy163]; exact H) | exact H
         have Ny163 := a0_ hy163
         clear hy163
         have H' := a0_ H
         clear H
         go_wp2_with (first | ((with_reducible refine gate_dst (N := 28) rfl ?_); refine Kd.R_make (Kd.int .u8) _ 5 rfl (N := 28) rfl 111 _ _ rfl a1 rfl rfl Try.underlying111 (.int .u8 0) 1 info5 rfl z17_ z2_ 0 (ok := fun _ => True) (okp := fun _ => True) rfl (fun _ hk => hk) trivial (of_decide_eq_true z19_) (Nat.le_trans (Nat.mul_le_mul_right _ (of_decide_eq_true z19_ : a1.toNat ≤ 281474976710656)) z2_) (Below.refl _ _) (Nat.le_refl _) ?_; intro v164 w15 ho16 hb hg_ hnew_; clear hg_ hnew_; (first | rw [← Ny163.out] at ho16 | (simp only [Int.reduceToNat] at ho16; rw [← Ny163.out] at ho16)); have HO165 := a0_ (Kd.R_lower ho16 (below_size z6_)); replace HB := a0_ (below_step z6_ hb); clear hb ho16; obtain ⟨Ao17, co17, eo17⟩ := Kd.R_slice HO165.out; subst eo17))
         go_loopg [31] kj5 (fun kq v31 w' => ∃ (x6_3 : List Int) (x31_3 : Int), v31 = .int .i64 x31_3 ∧ Aside0 (octet_Put.l0 kq a0 a1 x6_3 (y163.length : Int) x31_3 = some (r1, r2)) ∧ Aside0 (kq ≤ kj5) ∧ Aside0 (Kd.R (Kd.int .u8) 5 w' w.heap.size (fun _ => True) (.slice Ao17 y163.length co17) x6_3) ∧ Aside0 (Below w.heap.size w w'))
         case atStart => exact ⟨(y163), (0), z9_, H', ⟨Nat.le_refl _⟩, ⟨by (with_reducible repeat (first | apply Kd.R_alloc | apply Kd.R_drewN | apply Kd.R_drew)); exact HO165.out⟩, ⟨z6_⟩⟩
         case round =>
          clear H'
          obtain ⟨x6_3, x31_3, rfl, HA, HK3, HO_6, HB⟩ := hrel
          have hl6_3 := (Kd.R_reads' HO_6.out).1
          rw [hl6_3] at HO_6
          (try simp only [hl6_3])
          cases gk with
          | zero => exact absurd HA.out (by simp [octet_Put.l0])
          | succ k3 =>
           have H := HA.out
           clear HA
           simp only [octet_Put.l0] at H
           by_cases c18 : x31_3 < (y163.length : Int)
           ·rw [if_pos c18] at H
            have c18b0 : decide (x31_3 < (y163.length : Int)) = true := decide_eq_true c18
            clear c18
            (try (have c18b0x := c18b0; simp only [hl6_3] at c18b0x))
            obtain ⟨ji19, hji19⟩ : ∃ j_ : Int, (wrap64 (8 * (wrap64 ((wrap64 (a1 - 1)) - x31_3)))) = j_ := ⟨_, rfl⟩
            replace H : (if 0 ≤ (ji19) then (if 0 ≤ x31_3 then (if x31_3 < (x6_3.length : Int) then (octet_Put.l0 k3 a0 a1 (x6_3.set (x31_3 : Int).toNat ((shr .i64 a0 (ji19)) % 256)) (y163.length : Int) (wrap64 (x31_3 + 1))) else (none)) else (none)) else (none)) = some (r1, r2) := by first | (rw [hji19] at H; exact H) | (simp only [hji19] at H ⊢; exact H)
            have hji19w : (IntKind.i64.wrap (8 * (wrap64 ((wrap64 (a1 - 1)) - x31_3)))) = ji19 := (i64_w _).trans hji19
            by_cases c20 : 0 ≤ (ji19)
            ·rw [if_pos c20] at H
             have c20b0 := eq_true c20
             have c20b1 : decide (0 ≤ (ji19)) = true := decide_eq_true c20
             clear c20
             (try (have c20b0x := c20b0; simp only [hl6_3] at c20b0x))
             (try (have c20b1x := c20b1; simp only [hl6_3] at c20b1x))
             obtain ⟨ji21, hji21⟩ : ∃ j_ : Int, (shr .i64 a0 (ji19)) = j_ := ⟨_, rfl⟩
             replace H : (if 0 ≤ x31_3 then (if x31_3 < (x6_3.length : Int) then (octet_Put.l0 k3 a0 a1 (x6_3.set (x31_3 : Int).toNat ((ji21) % 256)) (y163.length : Int) (wrap64 (x31_3 + 1))) else (none)) else (none)) = some (r1, r2) := by first | (rw [hji21] at H; exact H) | (simp only [hji21] at H ⊢; exact H)
             have hji21_ : (a0 / 2 ^ min (ji19).toNat 64) = ji21 := hji21
             have hji21z : (ji19) ≤ 64 → (a0 / 2 ^ (ji19).toNat) = ji21 := shr_small hji21
             by_cases c22 : 0 ≤ x31_3
             ·rw [if_pos c22] at H
              have c22b0 : decide (0 ≤ x31_3) = true := decide_eq_true c22
              clear c22
              (try (have c22b0x := c22b0; simp only [hl6_3] at c22b0x))
              by_cases c23 : x31_3 < (x6_3.length : Int)
              ·rw [if_pos c23] at H
               have c23b0 : decide (x31_3 < (x6_3.length : Int)) = true := decide_eq_true c23
               clear c23
               (try (have c23b0x := c23b0; simp only [hl6_3] at c23b0x))
               obtain ⟨y166, hy166⟩ : ∃ y_ : List Int, y_ = (x6_3.set (x31_3 : Int).toNat ((ji21) % 256)) := ⟨_, rfl⟩
               replace H : (octet_Put.l0 k3 a0 a1 y166 (y163.length : Int) (wrap64 (x31_3 + 1))) = some (r1, r2) := by first | (rw [hy166]; with_reducible exact H) | (have H2_ := (Option.bind_some _ _).symm.trans H; rw [hy166]; with_reducible exact H2_) | (have H2_ := (Option.bind_some _ _).symm.trans H; with_reducible exact H2_) | with_reducible exact H | (rw [hy166]; exact H) | exact H
               have Ny166 := a0_ hy166
               clear hy166
               have H' := a0_ H
               clear H
               have p24 : 0 ≤ (x31_3 : Int) := of_decide_eq_true z19_
               have q24 : (x31_3 : Int) < ((x6_3.length : Int) : Int) := of_decide_eq_true z19_
               obtain ⟨go24, co24, eo24, gb24, gl24, cl24, HG24⟩ := Kd.R_form HO_6.out z2_
               (first | cases eo24 | (injection eo24 with ea_ en_ ec_; (first | subst ea_ | (injection ea_ with ea_; subst ea_)); subst ec_; clear en_))
               have GB24 := a0_ gb24
               have GG24 := a0_ HG24
               clear gb24 gl24 HG24
               obtain ⟨hx24_0, hf24_0⟩ := Kd.R_celln 0 HO_6.out (x31_3 : Int) p24 q24
               replace p24 := eq_true p24
               replace q24 := eq_true q24
               have HP25 := Kd.R_putg HO_6.out (x31_3 : Int) ((ji21) % 256)
               go_wp2_with (first | ((with_reducible refine gate_store (t := 5) (p := 44) rfl ?_); refine store_event (t := 5) (p := 44) (v := ?vo_w26) (w1 := (wr.setCell ⟨go24, (x31_3 : Int).toNat, none⟩ (.int .u8 ((ji21) % 256)))) ?hg ?ho ?hn ?hr ?_; (case ho => rfl); (case hg => rfl); (case hn => rfl); (case hr => exact z7_); intro w26 hw; have hg : wr.grownBy w26 (some go24) := (by rw [hw]; exact HP25.2); have hp_ : Kd.R (Kd.int .u8) 5 w26 w.heap.size (fun _ => True) (.slice (some ⟨go24, 0, none⟩) x6_3.length co17) y166 := (by rw [hw, Ny166.out]; exact HP25.1); clear HP25; replace HO_6 := a0_ (hp_); replace HB := a0_ ((by rw [hw]; exact below_set (HB.out) GB24.out : Below w.heap.size w w26)); clear hg hw hp_))
               (try simp only [← hl6_3])
               go_roundg k3
               case measure => have := HJ2.out; have := HJ5.out; have := HK3.out; omega
               case rel => exact ⟨(y166), (wrap64 (x31_3 + 1)), z9_, H', ⟨by have := HJ2.out; have := HJ5.out; have := HK3.out; omega⟩, ⟨by (try simp only [hl6_3]); (with_reducible repeat (first | apply Kd.R_alloc | apply Kd.R_drewN | apply Kd.R_drew)); exact HO_6.out⟩, ⟨z6_⟩⟩
              ·rw [if_neg c23] at H
               exact absurd H (by simp)
             ·rw [if_neg c22] at H
              exact absurd H (by simp)
            ·rw [if_neg c20] at H
             exact absurd H (by simp)
           ·rw [if_neg c18] at H
            have c18b0 : decide (x31_3 < (y163.length : Int)) = false := decide_eq_false c18
            clear c18
            (try (have c18b0x := c18b0; simp only [hl6_3] at c18b0x))
            simp only [Option.some.injEq, Prod.mk.injEq] at H
            obtain ⟨rfl, rfl⟩ := H
            have hcv27 := own_string (P := Try.prog) Try.underlying111 Try.underlying5 Try.underlying9 (Kd.own_of_R HO_6.out)
            go_wp2
            go_ret2
            exact qpx70_
        ·rw [if_neg c14] at H
         exact absurd H (by simp)
       ·rw [if_neg c13] at H
        exact absurd H (by simp)
def msg_eight.l0 : Nat → List Int → List Int → Int → Int → Option (ByteArray)
 | 0, _, _, _, _ => none
 | k + 1, x3, x8, x9, x10 => if x10 < x9 then (if 0 ≤ x10 then (if x10 < (x8.length : Int) then ((octet_Put.f k (rd x8 x10) 8).bind fun bt168 => (if x3.length + bt168.1.size < 140737488355328 then (msg_eight.l0 k (x3 ++ bytesOf bt168.1) x8 x9 (wrap64 (x10 + 1))) else (none))) else (none)) else (none)) else (some (strOfNums x3))
def msg_eight.f (k : Nat) (l0 : List Int) : Option (ByteArray) := msg_eight.l0 k ([] : List Int) l0 (l0.length : Int) 0
set_option maxHeartbeats 8000000 in
set_option maxRecDepth 100000 in
theorem msg_eight.calls (k : Nat) (A0 : Option Addr) (c0 : Nat) (l0 : List Int) (r : ByteArray) (w : World) (hr0 : Kd.C (Kd.int .i64) w A0 l0.length l0) (hc0 : l0.length ≤ c0) (h : msg_eight.f k l0 = some r) :
  Calls Try.prog 41 #[.slice A0 l0.length c0] w fun e w' => e = .returned (.string r) ∧ Below w.heap.size w w' := by
 have HR0 := a0_ hr0
 have HC0 := a0_ hc0
 clear hr0 hc0
 have HB := a0_ (Below.refl w.heap.size w)
 have H : (msg_eight.l0 k ([] : List Int) l0 (l0.length : Int) 0) = some r := h
 clear h
 have H' := a0_ H
 clear H
 go_enter Try.func41, Try.ntmps41
 go_wp2
 go_loopg [3, 10] k (fun kq v3 v10 w' => ∃ (x3_1 : List Int) (x10_1 : Int), v10 = .int .i64 x10_1 ∧ Aside0 (msg_eight.l0 kq x3_1 l0 (l0.length : Int) x10_1 = some r) ∧ Aside0 (kq ≤ k) ∧ Aside0 (Kd.R (Kd.int .u8) 5 w' w.heap.size (fun _ => True) v3 x3_1) ∧ Aside0 (Below w.heap.size w w'))
 case atStart => exact ⟨(([] : List Int)), (0), z9_, H', ⟨Nat.le_refl _⟩, ⟨z15_⟩, ⟨z6_⟩⟩
 case round =>
  clear H'
  obtain ⟨x3_1, x10_1, rfl, HA, HK1, HO_3, HB⟩ := hrel
  cases gk with
  | zero => exact absurd HA.out (by simp [msg_eight.l0])
  | succ k1 =>
   have H := HA.out
   clear HA
   simp only [msg_eight.l0] at H
   by_cases c2 : x10_1 < (l0.length : Int)
   ·rw [if_pos c2] at H
    have c2b0 : decide (x10_1 < (l0.length : Int)) = true := decide_eq_true c2
    clear c2
    by_cases c3 : 0 ≤ x10_1
    ·rw [if_pos c3] at H
     have c3b0 : decide (0 ≤ x10_1) = true := decide_eq_true c3
     clear c3
     by_cases c4 : x10_1 < (l0.length : Int)
     ·rw [if_pos c4] at H
      have c4b0 : decide (x10_1 < (l0.length : Int)) = true := decide_eq_true c4
      clear c4
      replace H := Option.bind_eq_some_iff.mp H
      obtain ⟨⟨t168, t169⟩, A50, H⟩ := H
      try dsimp only at H
      have A5 := a0_ A50
      clear A50
      by_cases c6 : x3_1.length + t168.size < 140737488355328
      ·rw [if_pos c6] at H
       have LMc6 := a0_ c6
       clear c6
       obtain ⟨y170, hy170⟩ : ∃ y_ : List Int, y_ = (x3_1 ++ bytesOf t168) := ⟨_, rfl⟩
       replace H : (msg_eight.l0 k1 y170 l0 (l0.length : Int) (wrap64 (x10_1 + 1))) = some r := by first | (rw [hy170]; with_reducible exact H) | (have H2_ := (Option.bind_some _ _).symm.trans H; rw [hy170]; with_reducible exact H2_) | (have H2_ := (Option.bind_some _ _).symm.trans H; with_reducible exact H2_) | with_reducible exact H | (rw [hy170]; exact H) | exact H
       have Ny170 := a0_ hy170
       clear hy170
       have H' := a0_ H
       clear H
       have p167 : 0 ≤ (x10_1 : Int) := of_decide_eq_true z19_
       have q167 : x10_1 < (l0.length : Int) := of_decide_eq_true z19_
       obtain ⟨ad167, e167, hx167_0⟩ := Kd.at_int HR0.out x10_1 p167 q167
       cases e167
       replace hx167_0 := (HB.out.cell (World.block_lt_of_cell? w _ hx167_0)).trans hx167_0
       replace p167 := eq_true p167
       replace q167 := eq_true q167
       go_wp2_with (first | ((with_reducible refine gate_callee (f := 80) rfl ?_); refine goesL_ (some 16) rfl rfl Try.func80 z11_ rfl #[.int .i64 (rd l0 x10_1), .int .i64 8] rfl z12_ ?_; (with_reducible refine (octet_Put.calls k1 (rd l0 x10_1) 8 t168 t169 _ A5.out).mono ?_); rintro e w7 ⟨rfl, hb⟩; refine ⟨_, rfl, ?_⟩; replace HO_3 := a0_ (Kd.R_below z67_ hb); replace HB := a0_ (below_step z6_ hb); (try clear hb); (try clear hb2); (try clear hk); (try clear hi)) | (at_builtin; refine print_append_str (w0 := w) w.heap.size rfl (.tmp 19) _ 111 9 5 rfl Try.underlying111 Try.underlying9 info5 u3 x3_1 t168 rfl rfl ?aO ?aB ?aS ?aL ?_; (case aB => exact z42_); (case aO => exact (Kd.own_of_R z67_)); (case aS => exact z44_); (case aL => have := LMc6.out; omega); intro v171 w8 ho0 hb hg; have ho := Kd.R_of_own (h1 := fun _ => rfl) (ok := fun _ => True) ho0 (fun _ _ => trivial); clear ho0; have hat := True.intro; rw [← Ny170.out] at ho; change Kd.R (Kd.int .u8) 5 w8 w.heap.size (fun _ => True) v171 y170 at ho; have n0_ := a0_ (hb); have n1_ := a0_ (ho); clear HB; clear HO_3; have HB := n0_; have HO172 := n1_; clear n0_ n1_; clear ho hb hg hat))
       go_roundg k1
       case measure => have := HK1.out; omega
       case rel => exact ⟨(y170), (wrap64 (x10_1 + 1)), z9_, H', ⟨z21_⟩, ⟨by (with_reducible repeat (first | apply Kd.R_alloc | apply Kd.R_drewN | apply Kd.R_drew)); exact HO172.out⟩, ⟨z6_⟩⟩
      ·rw [if_neg c6] at H
       exact absurd H (by simp)
     ·rw [if_neg c4] at H
      exact absurd H (by simp)
    ·rw [if_neg c3] at H
     exact absurd H (by simp)
   ·rw [if_neg c2] at H
    have c2b0 : decide (x10_1 < (l0.length : Int)) = false := decide_eq_false c2
    clear c2
    obtain rfl := Option.some.inj H
    have hcv9 := own_string (P := Try.prog) Try.underlying111 Try.underlying5 Try.underlying9 (Kd.own_of_R HO_3.out)
    go_wp2
    go_ret
    exact qpx70_
mutual
def msg_PutLine.j0 : Nat → List (S160) → Bool → Option (ByteArray × Int)
 | 0, _, _ => none
 | k + 1, x0, x14 => if x14 = true then (some ((⟨#[]⟩ : ByteArray), 1)) else (msg_PutLine.l0 k (strOfNums (([((x0.length : Int)) % 256] : List Int))) x0 (x0.length : Int) 0)
def msg_PutLine.l0 : Nat → ByteArray → List (S160) → Int → Int → Option (ByteArray × Int)
 | 0, _, _, _, _ => none
 | k + 1, x4, x20, x21, x22 => if x22 < x21 then (if 0 ≤ x22 then (if x22 < (x20.length : Int) then ((msg_eight.f k (([(rd_T160 x20 x22).f0, (rd_T160 x20 x22).f1] : List Int))).bind fun t182 => (if x4.size + t182.size ≤ 9223372036854775807 then (msg_PutLine.l0 k (x4 ++ t182) x20 x21 (wrap64 (x22 + 1))) else (none))) else (none)) else (none)) else (some (x4, 0))
end
def msg_PutLine.f (k : Nat) (l0 : List (S160)) : Option (ByteArray × Int) := if (l0.length : Int) > 0 then ((line_Right.f k l0).bind fun t173 => (msg_PutLine.j0 k l0 (!t173))) else (msg_PutLine.j0 k l0 false)
set_option maxHeartbeats 8000000 in
set_option maxRecDepth 100000 in
theorem msg_PutLine.calls (k : Nat) (A0 : Option Addr) (c0 : Nat) (l0 : List (S160)) (r1 : ByteArray) (r2 : Int) (w : World) (hr0 : Kd.C k160 w A0 l0.length l0) (hc0 : l0.length ≤ c0) (h : msg_PutLine.f k l0 = some (r1, r2)) :
  Calls Try.prog 38 #[.slice A0 l0.length c0] w fun e w' => e = .returned (.tuple #[.string r1, .int .i64 r2]) ∧ Below w.heap.size w w' := by
 have hu160 := Try.underlying160
 have HR0 := a0_ hr0
 have HC0 := a0_ hc0
 clear hr0 hc0
 have HB := a0_ (Below.refl w.heap.size w)
 have H : (if (l0.length : Int) > 0 then ((line_Right.f k l0).bind fun t173 => (msg_PutLine.j0 k l0 (!t173))) else (msg_PutLine.j0 k l0 false)) = some (r1, r2) := h
 clear h
 have HC2 := a0_ H
 clear H
 go_enter Try.func38, Try.ntmps38
 go_upto_region 1 with (fail)
 go_cut [14] (fun v14 wc => ∃ (kq : Nat) (x14_1 : Bool), v14 = .bool x14_1 ∧ Aside0 (msg_PutLine.j0 kq l0 x14_1 = some (r1, r2)) ∧ Aside0 (kq ≤ k) ∧ Aside0 (Below w.heap.size w wc))
 case first =>
  have H := HC2.out
  clear HC2
  by_cases c3 : (l0.length : Int) > 0
  ·rw [if_pos c3] at H
   have c3b0 : decide (0 < (l0.length : Int)) = true := decide_eq_true c3
   have c3b1 : decide (0 < l0.length) = true := decide_eq_true z2_
   clear c3
   (first | rw [c3b0] | (simp only [i64_w, i32_w]; rw [c3b0]) | skip)
   replace H := Option.bind_eq_some_iff.mp H
   obtain ⟨t173, A40, H⟩ := H
   try dsimp only at H
   have A4 := a0_ A40
   clear A40
   have H' := a0_ H
   clear H
   go_wp2_with (first | (go_at_call 72; (with_reducible refine (line_Right.calls k _ _ l0 t173 _ ?side1 ?side2 A4.out).mono ?_); (case side1 => exact z33_); (case side2 => exact z32_); rintro e w5 ⟨rfl, hb⟩; replace HB := a0_ (below_step z6_ hb); (try clear hb); (try clear hb2); (try clear hk); (try clear hi)))
   go_meet
   case rel => exact ⟨_, (!t173), z9_, H', ⟨z18_⟩, ⟨z6_⟩⟩
  ·rw [if_neg c3] at H
   have c3b0 : decide (0 < (l0.length : Int)) = false := decide_eq_false c3
   have c3b1 : decide (0 < l0.length) = false := decide_eq_false z2_
   clear c3
   (first | rw [c3b0] | (simp only [i64_w, i32_w]; rw [c3b0]) | skip)
   have H' := a0_ H
   clear H
   go_wp2
   go_meet
   case rel => exact ⟨_, (false), z9_, H', ⟨z18_⟩, ⟨z6_⟩⟩
 case rest =>
  clear HC2
  obtain ⟨kq, x14_1, rfl, HA, HJ1, HB⟩ := hcut
  cases kq with
  | zero => exact absurd HA.out (by simp [msg_PutLine.j0])
  | succ kj1 =>
   have H := HA.out
   clear HA
   simp only [msg_PutLine.j0] at H
   by_cases c6 : x14_1 = true
   ·subst c6
    rw [if_pos rfl] at H
    simp only [Option.some.injEq, Prod.mk.injEq] at H
    obtain ⟨rfl, rfl⟩ := H
    go_wp2
    go_ret2
    exact qpx70_
   ·replace c6 := Bool.eq_false_iff.mpr c6
    subst c6
    rw [if_neg (show ¬ (false = true) from z17_)] at H
    obtain ⟨y174, hy174⟩ : ∃ y_ : List Int, y_ = (([((l0.length : Int)) % 256] : List Int)) := ⟨_, rfl⟩
    replace H : (msg_PutLine.l0 kj1 (strOfNums y174) l0 (l0.length : Int) 0) = some (r1, r2) := by first | (rw [hy174]; with_reducible exact H) | (have H2_ := (Option.bind_some _ _).symm.trans H; rw [hy174]; with_reducible exact H2_) | (have H2_ := (Option.bind_some _ _).symm.trans H; with_reducible exact H2_) | with_reducible exact H | (rw [hy174]; exact H) | exact H
    have Ny174 := a0_ hy174
    clear hy174
    have H' := a0_ H
    clear H
    go_wp2_with (first | ((with_reducible refine gate_dst (N := 18) rfl ?_); refine Kd.R_lit (Kd.int .u8) _ 5 ?hg (N := 18) ?hd (xs := ([((l0.length : Int)) % 256] : List Int)) (inner := [.int .u8 (((l0.length : Int)) % 256)]) (ok := fun _ => True) (okp := fun _ => True) ?hr ?hp (fun _ hk => hk) trivial (Below.refl _ _) (Nat.le_refl _) (by simp) ?_; (case hd => rfl); (case hg => rfl); (case hr => exact z7_); (case hp => exact z68_); intro v175 w7 ho8 hb hg_ hnew_; clear hg_ hnew_; (first | rw [← Ny174.out] at ho8 | (simp only [Int.reduceToNat] at ho8; rw [← Ny174.out] at ho8)); have HO176 := a0_ (Kd.R_lower ho8 (below_size z6_)); replace HB := a0_ (below_step z6_ hb); clear hb ho8; have hcv9 := own_string (P := Try.prog) Try.underlying111 Try.underlying5 Try.underlying9 (Kd.own_of_R HO176.out)))
    go_loopg [4, 22] kj1 (fun kq v4 v22 w' => ∃ (x4_2 : ByteArray) (x22_2 : Int), v4 = .string x4_2 ∧ v22 = .int .i64 x22_2 ∧ Aside0 (msg_PutLine.l0 kq x4_2 l0 (l0.length : Int) x22_2 = some (r1, r2)) ∧ Aside0 (kq ≤ kj1) ∧ Aside0 (Below w.heap.size w w'))
    case atStart => exact ⟨(strOfNums y174), (0), z9_, z9_, H', ⟨Nat.le_refl _⟩, ⟨z6_⟩⟩
    case round =>
     clear H'
     obtain ⟨x4_2, x22_2, rfl, rfl, HA, HK2, HB⟩ := hrel
     cases gk with
     | zero => exact absurd HA.out (by simp [msg_PutLine.l0])
     | succ k2 =>
      have H := HA.out
      clear HA
      simp only [msg_PutLine.l0] at H
      by_cases c10 : x22_2 < (l0.length : Int)
      ·rw [if_pos c10] at H
       have c10b0 : decide (x22_2 < (l0.length : Int)) = true := decide_eq_true c10
       clear c10
       by_cases c11 : 0 ≤ x22_2
       ·rw [if_pos c11] at H
        have c11b0 : decide (0 ≤ x22_2) = true := decide_eq_true c11
        clear c11
        by_cases c12 : x22_2 < (l0.length : Int)
        ·rw [if_pos c12] at H
         have c12b0 : decide (x22_2 < (l0.length : Int)) = true := decide_eq_true c12
         clear c12
         obtain ⟨y179, hy179⟩ : ∃ y_ : List Int, y_ = (([(rd_T160 l0 x22_2).f0, (rd_T160 l0 x22_2).f1] : List Int)) := ⟨_, rfl⟩
         replace H : ((msg_eight.f k2 y179).bind fun t182 => (if x4_2.size + t182.size ≤ 9223372036854775807 then (msg_PutLine.l0 k2 (x4_2 ++ t182) l0 (l0.length : Int) (wrap64 (x22_2 + 1))) else (none))) = some (r1, r2) := by first | (rw [hy179]; with_reducible exact H) | (have H2_ := (Option.bind_some _ _).symm.trans H; rw [hy179]; with_reducible exact H2_) | (have H2_ := (Option.bind_some _ _).symm.trans H; with_reducible exact H2_) | with_reducible exact H | (rw [hy179]; exact H) | exact H
         have Ny179 := a0_ hy179
         clear hy179
         replace H := Option.bind_eq_some_iff.mp H
         obtain ⟨t182, A130, H⟩ := H
         try dsimp only at H
         have A13 := a0_ A130
         clear A130
         by_cases c14 : x4_2.size + t182.size ≤ 9223372036854775807
         ·rw [if_pos c14] at H
          have c14b0 := eq_true c14
          have c14b1 : decide (x4_2.size + t182.size ≤ 9223372036854775807) = true := decide_eq_true c14
          try have c14b2 : (9223372036854775807 < x4_2.size + t182.size) = False := eq_false (Nat.not_lt.2 c14)
          have H' := a0_ H
          clear H
          have p177 : 0 ≤ (x22_2 : Int) := of_decide_eq_true z19_
          have q177 : x22_2 < (l0.length : Int) := of_decide_eq_true z19_
          obtain ⟨ad177, e177, hx177_0, hx177_1⟩ := at_T160 HR0.out x22_2 p177 q177
          cases e177
          replace hx177_0 := (HB.out.cell (World.block_lt_of_cell? w _ hx177_0)).trans hx177_0
          replace hx177_1 := (HB.out.cell (World.block_lt_of_cell? w _ hx177_1)).trans hx177_1
          replace p177 := eq_true p177
          replace q177 := eq_true q177
          go_wp2_with (first | ((with_reducible refine gate_dst (N := 6) rfl ?_); refine box_event ?hg (N := 6) ?hd (cs := #[.int .i64 0, .int .i64 0]) (t := 160) ?hr ?_; (case hd => rfl); (case hg => rfl); (case hr => exact z7_); intro gb178 hg w15 hbox hb; have n0_ := a0_ (below_step z6_ hb); have n1_ := a0_ (hbox); have n2_ := a0_ ((z8_ : w.heap.size ≤ gb178)); have n3_ := a0_ ((z8_ : w.heap.size ≤ gb178)); clear HB; have HB := n0_; have BK178 := n1_; have GW178 := n2_; have GE178 := n3_; clear n0_ n1_ n2_ n3_; clear hb hbox hg; have hcz16_0 := blk_cell BK178.out 0; have hcz16_1 := blk_cell BK178.out 1; have hfz16_0 := blk_frozen BK178.out 0; have hfz16_1 := blk_frozen BK178.out 1) | ((with_reducible refine gate_dst (N := 31) rfl ?_); refine Kd.R_lit (Kd.int .i64) _ 3 ?hg (N := 31) ?hd (xs := ([(rd_T160 l0 x22_2).f0, (rd_T160 l0 x22_2).f1] : List Int)) (inner := [.int .i64 ((rd_T160 l0 x22_2).f0), .int .i64 ((rd_T160 l0 x22_2).f1)]) (ok := fun _ => True) (okp := fun _ => True) ?hr ?hp (fun _ hk => hk) trivial (Below.refl _ _) (Nat.le_refl _) (by simp) ?_; (case hd => rfl); (case hg => rfl); (case hr => exact z7_); (case hp => exact (Reps.one (show Kd.M (Kd.int .i64) _ _ _ ((rd_T160 l0 x22_2).f0) [.int .i64 ((rd_T160 l0 x22_2).f0)] from rfl) (Reps.one (show Kd.M (Kd.int .i64) _ _ _ ((rd_T160 l0 x22_2).f1) [.int .i64 ((rd_T160 l0 x22_2).f1)] from rfl) (Reps.none _ _)))); intro v180 w17 ho18 hb hg_ hnew_; clear hg_ hnew_; (first | rw [← Ny179.out] at ho18 | (simp only [Int.reduceToNat] at ho18; rw [← Ny179.out] at ho18)); have HO181 := a0_ (Kd.R_lower ho18 (below_size z69_)); replace BK178 := a0_ (blk_below (g := gb178) (o := .cells #[.int .i64 ((rd_T160 l0 x22_2).f0), .int .i64 ((rd_T160 l0 x22_2).f1)] 160 (0, 0)) (by (with_reducible repeat (first | refine blk_drewN ?_ _ | refine blk_drew ?_ | refine blk_alloc ?_ _)); refine blk_put (cs := #[.int .i64 ((rd_T160 l0 x22_2).f0), .int .i64 0]) ?_ 1 _ rfl; (with_reducible repeat (first | refine blk_drewN ?_ _ | refine blk_drew ?_ | refine blk_alloc ?_ _)); refine blk_put (cs := #[.int .i64 0, .int .i64 0]) ?_ 0 _ rfl; (with_reducible repeat (first | refine blk_drewN ?_ _ | refine blk_drew ?_ | refine blk_alloc ?_ _)); exact BK178.out) hb); replace HB := a0_ (below_step z69_ hb); clear hb ho18; obtain ⟨Ao19, co19, eo19⟩ := Kd.R_slice HO181.out; subst eo19) | ((with_reducible refine gate_callee (f := 41) rfl ?_); refine goesL_ (some 32) rfl rfl Try.func41 z11_ rfl #[.slice Ao19 y179.length co19] rfl z12_ ?_; (with_reducible refine (msg_eight.calls k2 _ _ y179 t182 _ ?side1 ?side2 A13.out).mono ?_); (case side1 => repeat (first | exact (Kd.R_reads' HO181.out).2.2 | (with_reducible refine Kd.C_alloc ?_ _) | (with_reducible refine Kd.C_drewN ?_ _) | (with_reducible refine Kd.C_drew ?_))); (case side2 => exact (Kd.R_reads' HO181.out).2.1); rintro e w20 ⟨rfl, hb⟩; refine ⟨_, rfl, ?_⟩; replace HO181 := a0_ (Kd.R_below (by (with_reducible repeat (first | apply Kd.R_alloc | apply Kd.R_drewN | apply Kd.R_drew)); exact HO181.out) hb); replace BK178 := a0_ (blk_below (by (with_reducible repeat (first | refine blk_drewN ?_ _ | refine blk_drew ?_ | refine blk_alloc ?_ _)); exact BK178.out) hb); replace HB := a0_ (below_step z69_ hb); (try clear hb); (try clear hb2); (try clear hk); (try clear hi)))
          go_roundg k2
          case measure => have := HJ1.out; have := HK2.out; omega
          case rel => exact ⟨(x4_2 ++ t182), (wrap64 (x22_2 + 1)), z9_, z9_, H', ⟨z20_⟩, ⟨z69_⟩⟩
         ·rw [if_neg c14] at H
          exact absurd H (by simp)
        ·rw [if_neg c12] at H
         exact absurd H (by simp)
       ·rw [if_neg c11] at H
        exact absurd H (by simp)
      ·rw [if_neg c10] at H
       have c10b0 : decide (x22_2 < (l0.length : Int)) = false := decide_eq_false c10
       clear c10
       simp only [Option.some.injEq, Prod.mk.injEq] at H
       obtain ⟨rfl, rfl⟩ := H
       go_wp2
       go_ret2
       exact qpx70_
def dirty_Bytes.l0 : Nat → List Int → List (S166) → Int → Int → Option (ByteArray × Int)
 | 0, _, _, _, _ => none
 | k + 1, x4, x16, x17, x18 => if x18 < x17 then (if 0 ≤ x18 then (if x18 < (x16.length : Int) then ((octet_Put.f k (wrap64 ((rd_T166 x16 x18).f1)) 4).bind fun bt189 => (if x4.length < 140737488355328 then ((some (x4 ++ [((rd_T166 x16 x18).f0) % 256] : List Int)).bind fun y191 => (if y191.length + bt189.1.size < 140737488355328 then (dirty_Bytes.l0 k (y191 ++ bytesOf bt189.1) x16 x17 (wrap64 (x18 + 1))) else (none))) else (none))) else (none)) else (none)) else (some (strOfNums x4, 0))
def dirty_Bytes.f (k : Nat) (l0 : List (S166)) : Option (ByteArray × Int) := (dirty_Right.f k l0).bind fun t183 => (if t183 = true then (dirty_Bytes.l0 k (([((l0.length : Int)) % 256] : List Int)) l0 (l0.length : Int) 0) else (some ((⟨#[]⟩ : ByteArray), 1)))
set_option maxHeartbeats 8000000 in
set_option maxRecDepth 100000 in
theorem dirty_Bytes.calls (k : Nat) (A0 : Option Addr) (c0 : Nat) (l0 : List (S166)) (r1 : ByteArray) (r2 : Int) (w : World) (hr0 : Kd.C k166 w A0 l0.length l0) (hc0 : l0.length ≤ c0) (h : dirty_Bytes.f k l0 = some (r1, r2)) :
  Calls Try.prog 39 #[.slice A0 l0.length c0] w fun e w' => e = .returned (.tuple #[.string r1, .int .i64 r2]) ∧ Below w.heap.size w w' := by
 have hu166 := Try.underlying166
 have HR0 := a0_ hr0
 have HC0 := a0_ hc0
 clear hr0 hc0
 have HB := a0_ (Below.refl w.heap.size w)
 have H : ((dirty_Right.f k l0).bind fun t183 => (if t183 = true then (dirty_Bytes.l0 k (([((l0.length : Int)) % 256] : List Int)) l0 (l0.length : Int) 0) else (some ((⟨#[]⟩ : ByteArray), 1)))) = some (r1, r2) := h
 clear h
 replace H := Option.bind_eq_some_iff.mp H
 obtain ⟨t183, A20, H⟩ := H
 try dsimp only at H
 have A2 := a0_ A20
 clear A20
 by_cases c3 : t183 = true
 ·subst c3
  rw [if_pos rfl] at H
  obtain ⟨y184, hy184⟩ : ∃ y_ : List Int, y_ = (([((l0.length : Int)) % 256] : List Int)) := ⟨_, rfl⟩
  replace H : (dirty_Bytes.l0 k y184 l0 (l0.length : Int) 0) = some (r1, r2) := by first | (rw [hy184]; with_reducible exact H) | (have H2_ := (Option.bind_some _ _).symm.trans H; rw [hy184]; with_reducible exact H2_) | (have H2_ := (Option.bind_some _ _).symm.trans H; with_reducible exact H2_) | with_reducible exact H | (rw [hy184]; exact H) | exact H
  have Ny184 := a0_ hy184
  clear hy184
  have H' := a0_ H
  clear H
  go_enter Try.func39, Try.ntmps39
  go_wp2_with (first | ((with_reducible refine gate_callee (f := 74) rfl ?_); refine goesL_ (some 10) rfl rfl Try.func74 z11_ rfl #[.slice A0 l0.length c0] rfl z12_ ?_; (with_reducible refine (dirty_Right.calls k _ _ l0 true _ ?side1 ?side2 A2.out).mono ?_); (case side1 => exact z31_); (case side2 => exact z32_); rintro e w4 ⟨rfl, hb⟩; refine ⟨_, rfl, ?_⟩; replace HB := a0_ (below_step z6_ hb); (try clear hb); (try clear hb2); (try clear hk); (try clear hi)) | ((with_reducible refine gate_dst (N := 15) rfl ?_); refine Kd.R_lit (Kd.int .u8) _ 5 ?hg (N := 15) ?hd (xs := ([((l0.length : Int)) % 256] : List Int)) (inner := [.int .u8 (((l0.length : Int)) % 256)]) (ok := fun _ => True) (okp := fun _ => True) ?hr ?hp (fun _ hk => hk) trivial (Below.refl _ _) (Nat.le_refl _) (by simp) ?_; (case hd => rfl); (case hg => rfl); (case hr => exact z7_); (case hp => exact z68_); intro v185 w5 ho6 hb hg_ hnew_; clear hg_ hnew_; (first | rw [← Ny184.out] at ho6 | (simp only [Int.reduceToNat] at ho6; rw [← Ny184.out] at ho6)); have HO186 := a0_ (Kd.R_lower ho6 (below_size z6_)); replace HB := a0_ (below_step z6_ hb); clear hb ho6))
  go_loopg [4, 18] k (fun kq v4 v18 w' => ∃ (x4_1 : List Int) (x18_1 : Int), v18 = .int .i64 x18_1 ∧ Aside0 (dirty_Bytes.l0 kq x4_1 l0 (l0.length : Int) x18_1 = some (r1, r2)) ∧ Aside0 (kq ≤ k) ∧ Aside0 (Kd.R (Kd.int .u8) 5 w' w.heap.size (fun _ => True) v4 x4_1) ∧ Aside0 (Below w.heap.size w w'))
  case atStart => exact ⟨(y184), (0), z9_, H', ⟨Nat.le_refl _⟩, ⟨by (with_reducible repeat (first | apply Kd.R_alloc | apply Kd.R_drewN | apply Kd.R_drew)); exact HO186.out⟩, ⟨z6_⟩⟩
  case round =>
   clear H'
   obtain ⟨x4_1, x18_1, rfl, HA, HK1, HO_4, HB⟩ := hrel
   cases gk with
   | zero => exact absurd HA.out (by simp [dirty_Bytes.l0])
   | succ k1 =>
    have H := HA.out
    clear HA
    simp only [dirty_Bytes.l0] at H
    by_cases c7 : x18_1 < (l0.length : Int)
    ·rw [if_pos c7] at H
     have c7b0 : decide (x18_1 < (l0.length : Int)) = true := decide_eq_true c7
     clear c7
     by_cases c8 : 0 ≤ x18_1
     ·rw [if_pos c8] at H
      have c8b0 : decide (0 ≤ x18_1) = true := decide_eq_true c8
      clear c8
      by_cases c9 : x18_1 < (l0.length : Int)
      ·rw [if_pos c9] at H
       have c9b0 : decide (x18_1 < (l0.length : Int)) = true := decide_eq_true c9
       clear c9
       replace H := Option.bind_eq_some_iff.mp H
       obtain ⟨⟨t189, t190⟩, A100, H⟩ := H
       try dsimp only at H
       have A10 := a0_ A100
       clear A100
       by_cases c11 : x4_1.length < 140737488355328
       ·rw [if_pos c11] at H
        have LMc11 := a0_ c11
        clear c11
        obtain ⟨y191, hy191⟩ : ∃ y_ : List Int, y_ = (x4_1 ++ [((rd_T166 l0 x18_1).f0) % 256]) := ⟨_, rfl⟩
        replace H : (if y191.length + t189.size < 140737488355328 then (dirty_Bytes.l0 k1 (y191 ++ bytesOf t189) l0 (l0.length : Int) (wrap64 (x18_1 + 1))) else (none)) = some (r1, r2) := by first | (rw [hy191]; with_reducible exact H) | (have H2_ := (Option.bind_some _ _).symm.trans H; rw [hy191]; with_reducible exact H2_) | (have H2_ := (Option.bind_some _ _).symm.trans H; with_reducible exact H2_) | with_reducible exact H | (rw [hy191]; exact H) | exact H
        have Ny191 := a0_ hy191
        clear hy191
        by_cases c12 : y191.length + t189.size < 140737488355328
        ·rw [if_pos c12] at H
         have LMc12 := a0_ c12
         clear c12
         obtain ⟨y194, hy194⟩ : ∃ y_ : List Int, y_ = (y191 ++ bytesOf t189) := ⟨_, rfl⟩
         replace H : (dirty_Bytes.l0 k1 y194 l0 (l0.length : Int) (wrap64 (x18_1 + 1))) = some (r1, r2) := by first | (rw [hy194]; with_reducible exact H) | (have H2_ := (Option.bind_some _ _).symm.trans H; rw [hy194]; with_reducible exact H2_) | (have H2_ := (Option.bind_some _ _).symm.trans H; with_reducible exact H2_) | with_reducible exact H | (rw [hy194]; exact H) | exact H
         have Ny194 := a0_ hy194
         clear hy194
         have H' := a0_ H
         clear H
         have p187 : 0 ≤ (x18_1 : Int) := of_decide_eq_true z19_
         have q187 : x18_1 < (l0.length : Int) := of_decide_eq_true z19_
         obtain ⟨ad187, e187, hx187_0, hx187_1⟩ := at_T166 HR0.out x18_1 p187 q187
         cases e187
         replace hx187_0 := (HB.out.cell (World.block_lt_of_cell? w _ hx187_0)).trans hx187_0
         replace hx187_1 := (HB.out.cell (World.block_lt_of_cell? w _ hx187_1)).trans hx187_1
         replace p187 := eq_true p187
         replace q187 := eq_true q187
         go_wp2_with (first | ((with_reducible refine gate_dst (N := 6) rfl ?_); refine box_event ?hg (N := 6) ?hd (cs := #[.int .i64 0, .int .u64 0]) (t := 166) ?hr ?_; (case hd => rfl); (case hg => rfl); (case hr => exact z7_); intro gb188 hg w13 hbox hb; have n0_ := a0_ (Kd.R_below z70_ hb); have n1_ := a0_ (below_step z6_ hb); have n2_ := a0_ (hbox); have n3_ := a0_ ((z8_ : w.heap.size ≤ gb188)); have n4_ := a0_ ((z8_ : w.heap.size ≤ gb188)); clear HO_4; clear HB; have HO_4 := n0_; have HB := n1_; have BK188 := n2_; have GW188 := n3_; have GE188 := n4_; clear n0_ n1_ n2_ n3_ n4_; clear hb hbox hg; have hcz14_0 := blk_cell BK188.out 0; have hcz14_1 := blk_cell BK188.out 1; have hfz14_0 := blk_frozen BK188.out 0; have hfz14_1 := blk_frozen BK188.out 1) | ((with_reducible refine gate_callee (f := 80) rfl ?_); refine goesL_ (some 26) rfl rfl Try.func80 z11_ rfl #[.int .i64 (wrap64 ((rd_T166 l0 x18_1).f1)), .int .i64 4] rfl z12_ ?_; (with_reducible refine (octet_Put.calls k1 (wrap64 ((rd_T166 l0 x18_1).f1)) 4 t189 t190 _ A10.out).mono ?_); rintro e w15 ⟨rfl, hb⟩; refine ⟨_, rfl, ?_⟩; replace HO_4 := a0_ (Kd.R_below (by (with_reducible repeat (first | apply Kd.R_alloc | apply Kd.R_drewN | apply Kd.R_drew)); exact (Kd.R_mono (Kd.R_far (p := ⟨gb188, 1, none⟩) (Kd.R_far (p := ⟨gb188, 0, none⟩) (Kd.R_types HO_4.out BK188.out z17_) (fun _ hk => hk.2) (.int .i64 ((rd_T166 l0 x18_1).f0))) (fun _ hk => hk.2) (.int .u64 ((rd_T166 l0 x18_1).f1))) (fun _ h_ => h_.1))) hb); replace BK188 := a0_ (blk_below (g := gb188) (o := .cells #[.int .i64 ((rd_T166 l0 x18_1).f0), .int .u64 ((rd_T166 l0 x18_1).f1)] 166 (0, 0)) (by (with_reducible repeat (first | refine blk_drewN ?_ _ | refine blk_drew ?_ | refine blk_alloc ?_ _)); refine blk_put (cs := #[.int .i64 ((rd_T166 l0 x18_1).f0), .int .u64 0]) ?_ 1 _ rfl; (with_reducible repeat (first | refine blk_drewN ?_ _ | refine blk_drew ?_ | refine blk_alloc ?_ _)); refine blk_put (cs := #[.int .i64 0, .int .u64 0]) ?_ 0 _ rfl; (with_reducible repeat (first | refine blk_drewN ?_ _ | refine blk_drew ?_ | refine blk_alloc ?_ _)); exact BK188.out) hb); replace HB := a0_ (below_step z71_ hb); (try clear hb); (try clear hb2); (try clear hk); (try clear hi); have hcz16_0 := blk_cell BK188.out 0; have hcz16_1 := blk_cell BK188.out 1; have hfz16_0 := blk_frozen BK188.out 0; have hfz16_1 := blk_frozen BK188.out 1) | ((with_reducible refine gate_builtin (b := .append) (xs := #[.tmp 29, .tmp 33]) rfl ?_); at_builtin; refine Kd.R_append (Kd.int .u8) (w0 := w) w.heap.size rfl (.tmp 29) (.tmp 33) 111 5 (.int .u8 0) 1 rfl Try.underlying111 info5 rfl z17_ z2_ u4 x4_1 (((rd_T166 l0 x18_1).f0) % 256) [.int .u8 (((rd_T166 l0 x18_1).f0) % 256)] (fun _ => True) (fun _ => False) rfl rfl ?aP (fun _ hk => hk.elim) ?aF ?aO ?aB ?aS ?aL ?_; (case aP => exact z72_); (case aB => exact z73_); (case aF => exact z43_); (case aO => exact z70_); (case aS => exact z74_); (case aL => have := LMc11.out; omega); intro v192 w17 ho hb hg hat; rw [← Ny191.out] at ho; have n0_ := a0_ (blk_grown (g := gb188) (o := .cells #[.int .i64 ((rd_T166 l0 x18_1).f0), .int .u64 ((rd_T166 l0 x18_1).f1)] 166 (0, 0)) z75_ hg (Kd.R_ne HO_4.out BK188.out z17_)); have n1_ := a0_ (hb); have n2_ := a0_ (ho); clear BK188; clear HB; clear HO_4; have BK188 := n0_; have HB := n1_; have HO193 := n2_; clear n0_ n1_ n2_; clear ho hb hg hat) | (at_builtin; refine print_append_str (w0 := w) w.heap.size rfl (.tmp 34) _ 111 9 5 rfl Try.underlying111 Try.underlying9 info5 v192 y191 t189 rfl rfl ?aO ?aB ?aS ?aL ?_; (case aB => exact z73_); (case aO => exact (Kd.own_of_R (by (with_reducible repeat (first | apply Kd.R_alloc | apply Kd.R_drewN | apply Kd.R_drew)); exact HO193.out))); (case aS => exact z74_); (case aL => have := LMc12.out; omega); intro v195 w18 ho0 hb hg; have ho := Kd.R_of_own (h1 := fun _ => rfl) (ok := fun _ => True) ho0 (fun _ _ => trivial); clear ho0; have hat := True.intro; rw [← Ny194.out] at ho; change Kd.R (Kd.int .u8) 5 w18 w.heap.size (fun _ => True) v195 y194 at ho; have n0_ := a0_ (blk_grown (g := gb188) (o := .cells #[.int .i64 ((rd_T166 l0 x18_1).f0), .int .u64 ((rd_T166 l0 x18_1).f1)] 166 (0, 0)) z75_ hg (Kd.R_ne HO193.out BK188.out z17_)); have n1_ := a0_ (hb); have n2_ := a0_ (ho); clear BK188; clear HB; clear HO193; have BK188 := n0_; have HB := n1_; have HO196 := n2_; clear n0_ n1_ n2_; clear ho hb hg hat))
         go_roundg k1
         case measure => have := HK1.out; omega
         case rel => exact ⟨(y194), (wrap64 (x18_1 + 1)), z9_, H', ⟨z21_⟩, ⟨by (with_reducible repeat (first | apply Kd.R_alloc | apply Kd.R_drewN | apply Kd.R_drew)); exact HO196.out⟩, ⟨z71_⟩⟩
        ·rw [if_neg c12] at H
         exact absurd H (by simp)
       ·rw [if_neg c11] at H
        exact absurd H (by simp)
      ·rw [if_neg c9] at H
       exact absurd H (by simp)
     ·rw [if_neg c8] at H
      exact absurd H (by simp)
    ·rw [if_neg c7] at H
     have c7b0 : decide (x18_1 < (l0.length : Int)) = false := decide_eq_false c7
     clear c7
     simp only [Option.some.injEq, Prod.mk.injEq] at H
     obtain ⟨rfl, rfl⟩ := H
     have hcv19 := own_string (P := Try.prog) Try.underlying111 Try.underlying5 Try.underlying9 (Kd.own_of_R HO_4.out)
     go_wp2
     go_ret2
     exact qpx70_
 ·replace c3 := Bool.eq_false_iff.mpr c3
  subst c3
  rw [if_neg (show ¬ (false = true) from z17_)] at H
  simp only [Option.some.injEq, Prod.mk.injEq] at H
  obtain ⟨rfl, rfl⟩ := H
  go_enter Try.func39, Try.ntmps39
  go_wp2_with (first | ((with_reducible refine gate_callee (f := 74) rfl ?_); refine goesL_ (some 10) rfl rfl Try.func74 z11_ rfl #[.slice A0 l0.length c0] rfl z12_ ?_; (with_reducible refine (dirty_Right.calls k _ _ l0 false _ ?side1 ?side2 A2.out).mono ?_); (case side1 => exact z31_); (case side2 => exact z32_); rintro e w20 ⟨rfl, hb⟩; refine ⟨_, rfl, ?_⟩; replace HB := a0_ (below_step z6_ hb); (try clear hb); (try clear hb2); (try clear hk); (try clear hi)))
  go_ret2
  exact qpx70_
end Go.Proofs.Ytecfndblgefhdaa.P
