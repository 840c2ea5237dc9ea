-- Printed by this session's own program wip/mprint.py
import Derived.Test.YtbnkmdcfillhoaaPx0
import Derived.Test.YtbnkmdcfillhoaaPx1
import Derived.Test.YtbnkmdcfillhoaaPx2
import Derived.Test.YtbnkmdcfillhoaaPx3
namespace Go.Proofs.Ytbnkmdcfillhoaa.P
open Go.RowKit Go.Proofs.YtbnkmdcfillhoaaW.PrintWords Go.Proofs.YtbnkmdcfillhoaaW.PrintLast Go.Proofs.YtbnkmdcfillhoaaW.PrintMore
attribute [local go_sem] max2_int min2_int max_two min_two max_three min_three max_four min_four   -- for this text's walks alone
set_option linter.unusedVariables false
set_option linter.unusedSimpArgs false

/-! ### octet_List: function 22 -/
open Go.Proofs.Ytbnkmdcfillhoaa.Conv
def octet_List.go (k : Nat) : List ByteArray → List Int → Option (ByteArray × Int)
  | [], cur => some (strOfNums cur, 0)
  | s :: r, cur => (octet_Text.f k s).bind fun b => if b.2 = 0 then (if cur.length + b.1.size ≤ 140737488355328 then octet_List.go k r (cur ++ bytesOf b.1) else none) else some ((⟨#[]⟩ : ByteArray), b.2)
def octet_List.f (k : Nat) (l0 : List ByteArray) : Option (ByteArray × Int) :=
  if (l0.length : Int) > 65535 then some ((⟨#[]⟩ : ByteArray), 5) else (octet_Put.f k (l0.length : Int) 2).bind fun b => if b.1.size ≤ 140737488351232 then octet_List.go k l0 (bytesOf b.1) else none
theorem octet_List.mono_go : ∀ l cur k, LeO (octet_List.go k l cur) (octet_List.go (k + 1) l cur)
  | [], cur, k => LeO.refl _
  | s :: r, cur, k => by
    simp only [octet_List.go]
    refine LeO.bind (octet_Text.mono _ _) (fun b => ?_)
    refine LeO.ite (LeO.ite (octet_List.mono_go r _ k) (LeO.refl _)) (LeO.refl _)
theorem octet_List.mono : ∀ l0 k, LeO (octet_List.f k l0) (octet_List.f (k + 1) l0) := by
  intro l0 k
  unfold octet_List.f
  refine LeO.ite (LeO.refl _) (LeO.bind (octet_Put.mono _ _ _) (fun b => LeO.ite (octet_List.mono_go _ _ k) (LeO.refl _)))
theorem infoU8 : (Try.prog.info? 5).map (fun i => (i.zero, i.size, i.bytes)) = some (some (.int .u8 0), 1, 1) := by kernel_rfl
set_option maxHeartbeats 1000000 in
set_option maxRecDepth 100000 in
theorem octet_List.calls (k : Nat) (A0 : Option Addr) (c0 : Nat) (l0 : List ByteArray) (r1 : ByteArray) (r2 : Int) (w : World) (hr0 : Kd.C Kd.string w A0 l0.length l0) (hc0 : l0.length ≤ c0) (h : octet_List.f k l0 = some (r1, r2)) :
    Calls Try.prog 22 #[.slice A0 l0.length c0] w fun e w' => e = .returned (.tuple #[.string r1, .int .i64 r2]) ∧ Below w.heap.size w w' := by
  have HR0 := Aside0.mk hr0
  clear hr0 hc0
  have HB := Aside0.mk (Below.refl w.heap.size w)
  unfold octet_List.f at h
  by_cases c2 : (l0.length : Int) > 65535
  · rw [if_pos c2] at h
    have c2b0 : decide (65535 < (l0.length : Int)) = true := decide_eq_true (by omega)
    have c2b1 : decide (65535 < l0.length) = true := decide_eq_true (by omega)
    simp only [Option.some.injEq, Prod.mk.injEq] at h
    obtain ⟨rfl, rfl⟩ := h
    clear c2
    go_enter Try.func22, Try.ntmps22
    go_wp2
    go_ret2
    exact ⟨rfl, HB.out⟩
  rw [if_neg c2] at h
  have c2b0 : decide (65535 < (l0.length : Int)) = false := decide_eq_false (by omega)
  have c2b1 : decide (65535 < l0.length) = false := decide_eq_false (by omega)
  obtain ⟨⟨t, e⟩, hp, h⟩ := Option.bind_eq_some_iff.1 h
  simp only at h
  by_cases hz : t.size ≤ 140737488351232
  · rw [if_pos hz] at h
    have HP := Aside0.mk hp
    have HZ := Aside0.mk hz
    have H := Aside0.mk h
    have HL : l0.length ≤ 65535 := by omega
    clear hp hz h c2
    go_enter Try.func22, Try.ntmps22
    go_wp2_with fail
    (with_reducible refine (octet_Put.calls k _ 2 t e _ HP.out).mono ?_)
    rintro e1 w1 ⟨rfl, hb⟩
    have HB1 := Aside0.mk (below_step HB.out hb)
    clear hb HB
    have hconv := Lib.run_convert_string_bytes w1 9 59 5 t Try.underlying9 Try.underlying59 Try.underlying5
    have HR := Aside0.mk (CRow.of_conv (e := 5) w1 w.heap.size t HB1.out.size (by have := HZ.out; simp only [maxLen]; omega))
    have HB2 := Aside0.mk (bytes_below HB1.out HB1.out.size 5 t)
    generalize Lib.bytesWorld w1 5 t = W1 at *
    generalize grownCap w1 t.size 0 5 = cp at *
    go_wp2
    go_loopw [6, 24] (fun v6 v24 w' => ∃ (i : Nat) (cur : List Int), i ≤ l0.length ∧ v24 = .int .i64 i ∧ Aside0 (octet_List.go k (l0.drop i) cur = some (r1, r2)) ∧ Aside0 (CRow 5 w' w.heap.size v6 cur) ∧ Aside0 (Below w.heap.size w w')) (fun _ v24 _ => l0.length - (intOf v24).toNat)
    case atStart => exact ⟨0, bytesOf t, Nat.zero_le _, rfl, H, HR, HB2⟩
    case round =>
      clear H HR HB2 hconv HB1
      obtain ⟨i, cur, hi, rfl, H, HR, HB2⟩ := hrel
      by_cases hlt : i < l0.length
      · have h := H.out
        rw [List.drop_eq_getElem_cons hlt] at h
        simp only [octet_List.go] at h
        obtain ⟨⟨u, e2⟩, hu, h⟩ := Option.bind_eq_some_iff.1 h
        simp only at h
        have hat := Kd.at_string HR0.out (i : Int) (by omega) (by omega)
        obtain ⟨ad, ead, hcell⟩ := hat
        cases ead
        have hs : rdOf ByteArray.empty l0 (i : Int) = l0[i] := by
          unfold rdOf
          rw [Int.toNat_natCast, List.getD_eq_getElem?_getD, List.getElem?_eq_getElem hlt]
          rfl
        rw [hs] at hcell
        replace hcell := (HB2.out.cell (World.block_lt_of_cell? w _ hcell)).trans hcell
        rw [Int.toNat_natCast] at hcell
        have HU := Aside0.mk hu
        have hi0 : 0 ≤ (i : Int) := by omega
        have hi1 : (i : Int) < (l0.length : Int) := by omega
        have HS := Aside0.mk hs
        clear hu hs H
        by_cases he : e2 = 0
        · rw [if_pos he] at h
          subst he
          by_cases hlim : cur.length + u.size ≤ 140737488355328
          · rw [if_pos hlim] at h
            have H := Aside0.mk h
            have HM := Aside0.mk hlim
            clear h hlim
            generalize l0[i] = s at *
            go_wp2_with fail
            (with_reducible refine (octet_Text.calls k s u 0 _ HU.out).mono ?_)
            rintro e3 w3 ⟨rfl, hb⟩
            have HB3 := Aside0.mk (below_step HB2.out hb)
            have HR3 := Aside0.mk (HR.out.below hb)
            clear hb HR HB2 hcell
            obtain ⟨g, hg1, hg2, hg3⟩ := HR3.out.some_block
            have HG := Aside0.mk hg1
            clear hg1 hg3
            go_wp2_with (at_builtin; refine wpList_append_crow (v := u6) rfl (.tmp 36) (.tmp 37) 59 9 rfl Try.underlying59 Try.underlying9 (.inl rfl) infoU8 rfl HR3.out (.string u) rfl (bytesOf u) (gives_string u) ?hl ?hb ?_; (case hl => have := HM.out; rw [bytesOf_length]; exact this); (case hb => exact HB3.out.size); intro v7 w7 hr7 hg7 _; have HR7 := Aside0.mk hr7; have HB7 := Aside0.mk (pw_below_grown HB3.out _ HB3.out.size hg7 (fun k hk => by rw [HG.out] at hk; injection hk with hk; omega)); clear hr7 hg7)
            go_roundw
            case measure => simp [intOf]; omega
            case rel => exact ⟨i + 1, cur ++ bytesOf u, by omega, by go_num, H, HR7, HB7⟩
          · rw [if_neg hlim] at h; cases h
        · rw [if_neg he] at h
          simp only [Option.some.injEq, Prod.mk.injEq] at h
          obtain ⟨rfl, rfl⟩ := h
          have c9b0 : (e2 == 0) = false := beq_eq_false_iff_ne.mpr he
          have c9b1 : (e2 != 0) = true := bne_iff_ne.mpr he
          generalize l0[i] = s at *
          clear he
          go_wp2_with fail
          (with_reducible refine (octet_Text.calls k s u e2 _ HU.out).mono ?_)
          rintro e3 w3 ⟨rfl, hb⟩
          have HB3 := Aside0.mk (below_step HB2.out hb)
          clear hb HR HB2 hcell
          go_wp2
          go_ret2
          exact ⟨rfl, HB3.out⟩
      · obtain rfl : i = l0.length := by omega
        have h := H.out
        rw [List.drop_length] at h
        simp only [octet_List.go, Option.some.injEq, Prod.mk.injEq] at h
        obtain ⟨rfl, rfl⟩ := h
        have hback := HR.out.text (P := Try.prog) Try.underlying59 Try.underlying5 Try.underlying9
        clear H HR
        go_wp2
        go_ret2
        exact ⟨rfl, HB2.out⟩
  · rw [if_neg hz] at h; cases h


/-! ### counterfoilref01_Text: function 25 -/
def counterfoilref01_Text.f (a0 : ByteArray) : Option (ByteArray × Int) := if (a0.size : Int) > 65535 then (some ((⟨#[]⟩ : ByteArray), 5)) else ((some (([(wrap64 ((a0.size : Int) / 256)) % 256, (a0.size : Int) % 256] : List Int) : List Int)).bind fun y159 => (if (strOfNums y159).size + a0.size ≤ 9223372036854775807 then (some ((strOfNums y159) ++ a0, 0)) else (none)))
set_option maxHeartbeats 8000000 in
set_option maxRecDepth 100000 in
theorem counterfoilref01_Text.calls (a0 : ByteArray) (r1 : ByteArray) (r2 : Int) (w : World) (h : counterfoilref01_Text.f a0 = some (r1, r2)) :
    Calls Try.prog 25 #[.string a0] w fun e w' => e = .returned (.tuple #[.string r1, .int .i64 r2]) ∧ Below w.heap.size w w' := by
  have HB := Aside0.mk (Below.refl w.heap.size w)
  have H : (if (a0.size : Int) > 65535 then (some ((⟨#[]⟩ : ByteArray), 5)) else ((some (([(wrap64 ((a0.size : Int) / 256)) % 256, (a0.size : Int) % 256] : List Int) : List Int)).bind fun y159 => (if (strOfNums y159).size + a0.size ≤ 9223372036854775807 then (some ((strOfNums y159) ++ a0, 0)) else (none)))) = some (r1, r2) := h
  clear h
  by_cases c2 : (a0.size : Int) > 65535
  · rw [if_pos c2] at H
    have c2b0 : decide (65535 < (a0.size : Int)) = true := decide_eq_true c2
    have c2b1 : decide (65535 < a0.size) = true := decide_eq_true (by omega)
    clear c2
    simp only [Option.some.injEq, Prod.mk.injEq] at H
    obtain ⟨rfl, rfl⟩ := H
    go_enter Try.func25, Try.ntmps25
    go_wp2
    go_ret2
    exact ⟨by first | rfl | (simp [errW_none, errW_some] <;> rfl) | (simp [*, errW_none, errW_some] <;> rfl), by repeat (first | (with_reducible first | exact HB.out | apply below_alloc | apply pw_below_drewN | apply below_drew1) | exact HB.out)⟩
  · rw [if_neg c2] at H
    have c2b0 : decide (65535 < (a0.size : Int)) = false := decide_eq_false c2
    have c2b1 : decide (65535 < a0.size) = false := decide_eq_false (by omega)
    clear c2
    obtain ⟨y159, hy159⟩ : ∃ y_ : List Int, y_ = (([(wrap64 ((a0.size : Int) / 256)) % 256, (a0.size : Int) % 256] : List Int)) := ⟨_, rfl⟩
    replace H : (if (strOfNums y159).size + a0.size ≤ 9223372036854775807 then (some ((strOfNums y159) ++ a0, 0)) else (none)) = some (r1, r2) := by first | (rw [hy159]; with_reducible exact H) | (have H2_ := (Option.bind_some _ _).symm.trans H; rw [hy159]; with_reducible exact H2_) | (have H2_ := (Option.bind_some _ _).symm.trans H; with_reducible exact H2_) | with_reducible exact H | (rw [hy159]; exact H) | exact H
    have Ny159 := Aside0.mk hy159
    clear hy159
    by_cases c3 : (strOfNums y159).size + a0.size ≤ 9223372036854775807
    · rw [if_pos c3] at H
      have c3b0 := eq_true c3
      have c3b1 : decide ((strOfNums y159).size + a0.size ≤ 9223372036854775807) = true := decide_eq_true c3
      try have c3b2 : (9223372036854775807 < (strOfNums y159).size + a0.size) = False := eq_false (Nat.not_lt.2 c3)
      simp only [Option.some.injEq, Prod.mk.injEq] at H
      obtain ⟨rfl, rfl⟩ := H
      go_enter Try.func25, Try.ntmps25
      go_wp2_with (first | ((with_reducible refine gate_dst (N := 15) rfl ?_); refine Kd.R_lit (Kd.int .u8) _ 5 ?hg (N := 15) ?hd (xs := ([(wrap64 ((a0.size : Int) / 256)) % 256, (a0.size : Int) % 256] : List Int)) (inner := [.int .u8 ((wrap64 ((a0.size : Int) / 256)) % 256), .int .u8 ((a0.size : Int) % 256)]) (ok := fun _ => True) (okp := fun _ => True) ?hr ?hp (fun _ hk => hk) trivial (Below.refl _ _) (Nat.le_refl _) (by simp) ?_; (case hd => rfl); (case hg => rfl); (case hr => first | (go_simp; done) | (go_simp; rfl) | (go_simp; simp only [w64m])); (case hp => exact (Reps.one (show Kd.M (Kd.int .u8) _ _ _ ((wrap64 ((a0.size : Int) / 256)) % 256) [.int .u8 ((wrap64 ((a0.size : Int) / 256)) % 256)] from rfl) (Reps.one (show Kd.M (Kd.int .u8) _ _ _ ((a0.size : Int) % 256) [.int .u8 ((a0.size : Int) % 256)] from rfl) (Reps.none _ _)))); intro v160 w4 ho5 hb hg_ hnew_; clear hg_ hnew_; (first | rw [← Ny159.out] at ho5 | (simp only [Int.reduceToNat] at ho5; rw [← Ny159.out] at ho5)); have n0_ := Aside0.mk (Kd.R_lower ho5 (below_size (by repeat (first | (with_reducible first | exact HB.out | apply below_alloc | apply pw_below_drewN | apply below_drew1) | exact HB.out)))); have n1_ := Aside0.mk (below_step (by repeat (first | (with_reducible first | exact HB.out | apply below_alloc | apply pw_below_drewN | apply below_drew1) | exact HB.out)) hb); clear HB; have HO161 := n0_; have HB := n1_; clear n0_ n1_; clear hb ho5; have hcv6 := own_string (P := Try.prog) Try.underlying59 Try.underlying5 Try.underlying9 (Kd.own_of_R HO161.out)))
      go_ret2
      exact ⟨by first | rfl | (simp [errW_none, errW_some] <;> rfl) | (simp [*, errW_none, errW_some] <;> rfl), by repeat (first | (with_reducible first | exact HB.out | apply below_alloc | apply pw_below_drewN | apply below_drew1) | exact HB.out)⟩
    · rw [if_neg c3] at H
      exact absurd H (by simp)

/-! ### counterfoilref01_List: function 23 -/
def counterfoilref01_List.l0 : Nat → List ByteArray → ByteArray → Int → Option (ByteArray × Int)
  | 0, _, _, _ => none
  | k + 1, x0, x4, x5 => if x5 < (x0.length : Int) then (if 0 ≤ x5 then ((counterfoilref01_Text.f (rdOf ByteArray.empty x0 x5)).bind fun bt166 => (if bt166.2 = 0 then (if x4.size + bt166.1.size ≤ 9223372036854775807 then (counterfoilref01_List.l0 k x0 (x4 ++ bt166.1) (wrap64 (x5 + 1))) else (none)) else (some ((⟨#[]⟩ : ByteArray), bt166.2)))) else (none)) else (some (x4, 0))
def counterfoilref01_List.f (k : Nat) (l0 : List ByteArray) : Option (ByteArray × Int) := if (l0.length : Int) > 65535 then (some ((⟨#[]⟩ : ByteArray), 5)) else (counterfoilref01_List.l0 k l0 (strOfNums (([(wrap64 ((l0.length : Int) / 256)) % 256, (l0.length : Int) % 256] : List Int))) 0)
theorem counterfoilref01_List.mono_l : ∀ k, (∀ y0 y1 y2, LeO (counterfoilref01_List.l0 k y0 y1 y2) (counterfoilref01_List.l0 (k + 1) y0 y1 y2))
  | 0 => fun _ _ _ r h => by simp [counterfoilref01_List.l0] at h
  | k + 1 => by
    have ih0 := counterfoilref01_List.mono_l k
    · intro y0 y1 y2
      unfold counterfoilref01_List.l0
      repeat' first
      | (with_reducible exact ih0 _ _ _)
      | (with_reducible exact LeO.refl _)
      | (with_reducible exact LeO.none _)
      | (with_reducible refine LeO.ite ?_ ?_)
      | (with_reducible refine LeO.bind ?_ (fun _ => ?_))
      | exact ih0 _ _ _
      | exact LeO.none _
      | refine LeO.ite ?_ ?_
      | refine LeO.bind ?_ (fun _ => ?_)
theorem counterfoilref01_List.mono : ∀ a0 k, LeO (counterfoilref01_List.f k a0) (counterfoilref01_List.f (k + 1) a0) := by
  intro a0 k
  have ih0 := counterfoilref01_List.mono_l k
  unfold counterfoilref01_List.f
  repeat' first
      | (with_reducible exact ih0 _ _ _)
      | (with_reducible exact LeO.refl _)
      | (with_reducible exact LeO.none _)
      | (with_reducible refine LeO.ite ?_ ?_)
      | (with_reducible refine LeO.bind ?_ (fun _ => ?_))
      | exact ih0 _ _ _
      | exact LeO.none _
      | refine LeO.ite ?_ ?_
      | refine LeO.bind ?_ (fun _ => ?_)
set_option maxHeartbeats 8000000 in
set_option maxRecDepth 100000 in
theorem counterfoilref01_List.calls (k : Nat) (A0 : Option Addr) (c0 : Nat) (l0 : List ByteArray) (r1 : ByteArray) (r2 : Int) (w : World) (hr0 : Kd.C Kd.string w A0 l0.length l0) (hc0 : l0.length ≤ c0) (h : counterfoilref01_List.f k l0 = some (r1, r2)) :
    Calls Try.prog 23 #[.slice A0 l0.length c0] w fun e w' => e = .returned (.tuple #[.string r1, .int .i64 r2]) ∧ Below w.heap.size w w' := by
  have HR0 := Aside0.mk hr0
  have HC0 := Aside0.mk hc0
  clear hr0 hc0
  have HB := Aside0.mk (Below.refl w.heap.size w)
  have H : (if (l0.length : Int) > 65535 then (some ((⟨#[]⟩ : ByteArray), 5)) else (counterfoilref01_List.l0 k l0 (strOfNums (([(wrap64 ((l0.length : Int) / 256)) % 256, (l0.length : Int) % 256] : List Int))) 0)) = some (r1, r2) := h
  clear h
  by_cases c2 : (l0.length : Int) > 65535
  · rw [if_pos c2] at H
    have c2b0 : decide (65535 < (l0.length : Int)) = true := decide_eq_true c2
    have c2b1 : decide (65535 < l0.length) = true := decide_eq_true (by omega)
    clear c2
    simp only [Option.some.injEq, Prod.mk.injEq] at H
    obtain ⟨rfl, rfl⟩ := H
    go_enter Try.func23, Try.ntmps23
    go_wp2
    go_ret2
    exact ⟨by first | rfl | (simp [errW_none, errW_some] <;> rfl) | (simp [*, errW_none, errW_some] <;> rfl), by repeat (first | (with_reducible first | exact HB.out | apply below_alloc | apply pw_below_drewN | apply below_drew1) | exact HB.out)⟩
  · rw [if_neg c2] at H
    have c2b0 : decide (65535 < (l0.length : Int)) = false := decide_eq_false c2
    have c2b1 : decide (65535 < l0.length) = false := decide_eq_false (by omega)
    clear c2
    obtain ⟨y162, hy162⟩ : ∃ y_ : List Int, y_ = (([(wrap64 ((l0.length : Int) / 256)) % 256, (l0.length : Int) % 256] : List Int)) := ⟨_, rfl⟩
    replace H : (counterfoilref01_List.l0 k l0 (strOfNums y162) 0) = some (r1, r2) := by first | (rw [hy162]; with_reducible exact H) | (have H2_ := (Option.bind_some _ _).symm.trans H; rw [hy162]; with_reducible exact H2_) | (have H2_ := (Option.bind_some _ _).symm.trans H; with_reducible exact H2_) | with_reducible exact H | (rw [hy162]; exact H) | exact H
    have Ny162 := Aside0.mk hy162
    clear hy162
    have H' := Aside0.mk H
    clear H
    go_enter Try.func23, Try.ntmps23
    go_wp2_with (first | ((with_reducible refine gate_dst (N := 19) rfl ?_); refine Kd.R_lit (Kd.int .u8) _ 5 ?hg (N := 19) ?hd (xs := ([(wrap64 ((l0.length : Int) / 256)) % 256, (l0.length : Int) % 256] : List Int)) (inner := [.int .u8 ((wrap64 ((l0.length : Int) / 256)) % 256), .int .u8 ((l0.length : Int) % 256)]) (ok := fun _ => True) (okp := fun _ => True) ?hr ?hp (fun _ hk => hk) trivial (Below.refl _ _) (Nat.le_refl _) (by simp) ?_; (case hd => rfl); (case hg => rfl); (case hr => first | (go_simp; done) | (go_simp; rfl) | (go_simp; simp only [w64m])); (case hp => exact (Reps.one (show Kd.M (Kd.int .u8) _ _ _ ((wrap64 ((l0.length : Int) / 256)) % 256) [.int .u8 ((wrap64 ((l0.length : Int) / 256)) % 256)] from rfl) (Reps.one (show Kd.M (Kd.int .u8) _ _ _ ((l0.length : Int) % 256) [.int .u8 ((l0.length : Int) % 256)] from rfl) (Reps.none _ _)))); intro v163 w3 ho4 hb hg_ hnew_; clear hg_ hnew_; (first | rw [← Ny162.out] at ho4 | (simp only [Int.reduceToNat] at ho4; rw [← Ny162.out] at ho4)); have n0_ := Aside0.mk (Kd.R_lower ho4 (below_size (by repeat (first | (with_reducible first | exact HB.out | apply below_alloc | apply pw_below_drewN | apply below_drew1) | exact HB.out)))); have n1_ := Aside0.mk (below_step (by repeat (first | (with_reducible first | exact HB.out | apply below_alloc | apply pw_below_drewN | apply below_drew1) | exact HB.out)) hb); clear HB; have HO164 := n0_; have HB := n1_; clear n0_ n1_; clear hb ho4; have hcv5 := own_string (P := Try.prog) Try.underlying59 Try.underlying5 Try.underlying9 (Kd.own_of_R HO164.out)))
    go_loopg [4, 5] k (fun kq v4 v5 w' => ∃ (x4_1 : ByteArray) (x5_1 : Int), v4 = .string x4_1 ∧ v5 = .int .i64 x5_1 ∧ Aside0 (counterfoilref01_List.l0 kq l0 x4_1 x5_1 = some (r1, r2)) ∧ Aside0 (kq ≤ k) ∧ Aside0 (Below w.heap.size w w'))
    case atStart => exact ⟨(strOfNums y162), (0), (by first | rfl | (simp; done) | (simp [*]; done)), (by first | rfl | (simp; done) | (simp [*]; done)), H', ⟨Nat.le_refl _⟩, ⟨by repeat (first | (with_reducible first | exact HB.out | apply below_alloc | apply pw_below_drewN | apply below_drew1) | exact HB.out)⟩⟩
    case round =>
      clear H'
      try clear c2
      try clear c2b0
      try clear c2b1
      try clear p2
      try clear hcv5
      obtain ⟨x4_1, x5_1, rfl, rfl, HA, HK1, HB⟩ := hrel
      cases gk with
      | zero => exact absurd HA.out (by simp [counterfoilref01_List.l0])
      | succ k1 =>
        have H := HA.out
        clear HA
        simp only [counterfoilref01_List.l0] at H
        by_cases c6 : x5_1 < (l0.length : Int)
        · rw [if_pos c6] at H
          have c6b0 : decide (x5_1 < (l0.length : Int)) = true := decide_eq_true c6
          clear c6
          by_cases c7 : 0 ≤ x5_1
          · rw [if_pos c7] at H
            have c7b0 : decide (0 ≤ x5_1) = true := decide_eq_true c7
            clear c7
            replace H := Option.bind_eq_some_iff.mp H
            obtain ⟨⟨t166, t167⟩, A80, H⟩ := H
            replace H : (if t167 = 0 then (if x4_1.size + t166.size ≤ 9223372036854775807 then (counterfoilref01_List.l0 k1 l0 (x4_1 ++ t166) (wrap64 (x5_1 + 1))) else (none)) else (some ((⟨#[]⟩ : ByteArray), t167))) = some (r1, r2) := H
            have A8 := Aside0.mk A80
            clear A80
            by_cases c9 : t167 = 0
            · rw [if_pos c9] at H
              have c9b0 : (t167 == 0) = true := beq_iff_eq.mpr c9
              have c9b1 : (t167 != 0) = false := bne_eq_false_iff_eq.mpr c9
              clear c9
              by_cases c10 : x4_1.size + t166.size ≤ 9223372036854775807
              · rw [if_pos c10] at H
                have c10b0 := eq_true c10
                have c10b1 : decide (x4_1.size + t166.size ≤ 9223372036854775807) = true := decide_eq_true c10
                try have c10b2 : (9223372036854775807 < x4_1.size + t166.size) = False := eq_false (Nat.not_lt.2 c10)
                have H' := Aside0.mk H
                clear H
                have p165 : 0 ≤ (x5_1 : Int) := of_decide_eq_true (by first | (with_reducible assumption) | assumption)
                have q165 : x5_1 < (l0.length : Int) := of_decide_eq_true (by first | (with_reducible assumption) | assumption)
                obtain ⟨ad165, e165, hx165_0⟩ := Kd.at_string HR0.out x5_1 p165 q165
                cases e165
                replace hx165_0 := (HB.out.cell (World.block_lt_of_cell? w _ hx165_0)).trans hx165_0
                replace p165 := eq_true p165
                replace q165 := eq_true q165
                go_wp2_with (first | ((with_reducible refine gate_callee (f := 25) rfl ?_); refine goesL_ (some 32) rfl rfl Try.func25 (by kernel_rfl) rfl #[.string (rdOf ByteArray.empty l0 x5_1)] rfl (by (try simp only [List.map_toArray, List.map_cons, List.map_nil]); first | done | rfl | (simp only [List.length_drop, List.length_take]; rfl)) ?_; (with_reducible refine (counterfoilref01_Text.calls (rdOf ByteArray.empty l0 x5_1) t166 t167 _ A8.out).mono ?_); rintro e w11 ⟨rfl, hb⟩; refine ⟨_, rfl, ?_⟩; have n0_ := Aside0.mk (below_step (by repeat (first | (with_reducible first | exact HB.out | apply below_alloc | apply pw_below_drewN | apply below_drew1) | exact HB.out)) hb); clear HB; have HB := n0_; clear n0_; (try clear hb); (try clear hb2); (try clear hk); (try clear hi)))
                go_roundg k1
                case measure => have := HK1.out; omega
                case rel => exact ⟨(x4_1 ++ t166), (wrap64 (x5_1 + 1)), (by first | rfl | (simp; done) | (simp [*]; done)), (by first | rfl | (simp; done) | (simp [*]; done)), H', ⟨by have := HK1.out; omega⟩, ⟨by repeat (first | (with_reducible first | exact HB.out | apply below_alloc | apply pw_below_drewN | apply below_drew1) | exact HB.out)⟩⟩
              · rw [if_neg c10] at H
                exact absurd H (by simp)
            · rw [if_neg c9] at H
              have c9b0 : (t167 == 0) = false := beq_eq_false_iff_ne.mpr c9
              have c9b1 : (t167 != 0) = true := bne_iff_ne.mpr c9
              simp only [Option.some.injEq, Prod.mk.injEq] at H
              obtain ⟨rfl, rfl⟩ := H
              have p165 : 0 ≤ (x5_1 : Int) := of_decide_eq_true (by first | (with_reducible assumption) | assumption)
              have q165 : x5_1 < (l0.length : Int) := of_decide_eq_true (by first | (with_reducible assumption) | assumption)
              obtain ⟨ad165, e165, hx165_0⟩ := Kd.at_string HR0.out x5_1 p165 q165
              cases e165
              replace hx165_0 := (HB.out.cell (World.block_lt_of_cell? w _ hx165_0)).trans hx165_0
              replace p165 := eq_true p165
              replace q165 := eq_true q165
              go_wp2_with (first | ((with_reducible refine gate_callee (f := 25) rfl ?_); refine goesL_ (some 32) rfl rfl Try.func25 (by kernel_rfl) rfl #[.string (rdOf ByteArray.empty l0 x5_1)] rfl (by (try simp only [List.map_toArray, List.map_cons, List.map_nil]); first | done | rfl | (simp only [List.length_drop, List.length_take]; rfl)) ?_; (with_reducible refine (counterfoilref01_Text.calls (rdOf ByteArray.empty l0 x5_1) t166 t167 _ A8.out).mono ?_); rintro e w12 ⟨rfl, hb⟩; refine ⟨_, rfl, ?_⟩; have n0_ := Aside0.mk (below_step (by repeat (first | (with_reducible first | exact HB.out | apply below_alloc | apply pw_below_drewN | apply below_drew1) | exact HB.out)) hb); clear HB; have HB := n0_; clear n0_; (try clear hb); (try clear hb2); (try clear hk); (try clear hi)))
              go_ret2
              exact ⟨by first | rfl | (simp [errW_none, errW_some] <;> rfl) | (simp [*, errW_none, errW_some] <;> rfl), by repeat (first | (with_reducible first | exact HB.out | apply below_alloc | apply pw_below_drewN | apply below_drew1) | exact HB.out)⟩
          · rw [if_neg c7] at H
            exact absurd H (by simp)
        · rw [if_neg c6] at H
          have c6b0 : decide (x5_1 < (l0.length : Int)) = false := decide_eq_false c6
          clear c6
          simp only [Option.some.injEq, Prod.mk.injEq] at H
          obtain ⟨rfl, rfl⟩ := H
          go_wp2
          go_ret2
          exact ⟨by first | rfl | (simp [errW_none, errW_some] <;> rfl) | (simp [*, errW_none, errW_some] <;> rfl), by repeat (first | (with_reducible first | exact HB.out | apply below_alloc | apply pw_below_drewN | apply below_drew1) | exact HB.out)⟩

/-! ### counterfoillaw01_OctetLists: function 9 -/
def counterfoillaw01_OctetLists.f (k : Nat) (l0 : List ByteArray) : Option (Bool) := (counterfoilref01_Small.f k l0 200 262144).bind fun t168 => (if t168 = true then ((octet_List.f k l0).bind fun bt169 => ((counterfoilref01_List.f k l0).bind fun bt171 => (if bt169.1.toList = bt171.1.toList then (if bt169.2 = bt171.2 then ((counterfoillaw01_awake.f k).bind fun t173 => (some t173)) else (some false)) else (some false)))) else ((counterfoillaw01_awake.f k).bind fun t174 => (some t174)))
theorem counterfoillaw01_OctetLists.mono : ∀ a0 k, LeO (counterfoillaw01_OctetLists.f k a0) (counterfoillaw01_OctetLists.f (k + 1) a0) := by
  intro a0 k
  unfold counterfoillaw01_OctetLists.f
  repeat' first
      | (with_reducible exact counterfoillaw01_awake.mono _)
      | (with_reducible exact counterfoilref01_List.mono _ _)
      | (with_reducible exact counterfoilref01_Small.mono _ _ _ _)
      | (with_reducible exact octet_List.mono _ _)
      | (with_reducible exact LeO.refl _)
      | (with_reducible exact LeO.none _)
      | (with_reducible refine LeO.ite ?_ ?_)
      | (with_reducible refine LeO.bind ?_ (fun _ => ?_))
      | exact counterfoillaw01_awake.mono _
      | exact counterfoilref01_List.mono _ _
      | exact counterfoilref01_Small.mono _ _ _ _
      | exact octet_List.mono _ _
      | exact LeO.none _
      | refine LeO.ite ?_ ?_
      | refine LeO.bind ?_ (fun _ => ?_)
set_option maxHeartbeats 8000000 in
set_option maxRecDepth 100000 in
theorem counterfoillaw01_OctetLists.calls (k : Nat) (A0 : Option Addr) (c0 : Nat) (l0 : List ByteArray) (r : Bool) (w : World) (hr0 : Kd.C Kd.string w A0 l0.length l0) (hc0 : l0.length ≤ c0) (h : counterfoillaw01_OctetLists.f k l0 = some r) :
    Calls Try.prog 9 #[.slice A0 l0.length c0] w fun e w' => e = .returned (.bool r) ∧ Below w.heap.size w w' := by
  have HR0 := Aside0.mk hr0
  have HC0 := Aside0.mk hc0
  clear hr0 hc0
  have HB := Aside0.mk (Below.refl w.heap.size w)
  have H : ((counterfoilref01_Small.f k l0 200 262144).bind fun t168 => (if t168 = true then ((octet_List.f k l0).bind fun bt169 => ((counterfoilref01_List.f k l0).bind fun bt171 => (if bt169.1.toList = bt171.1.toList then (if bt169.2 = bt171.2 then ((counterfoillaw01_awake.f k).bind fun t173 => (some t173)) else (some false)) else (some false)))) else ((counterfoillaw01_awake.f k).bind fun t174 => (some t174)))) = some r := h
  clear h
  replace H := Option.bind_eq_some_iff.mp H
  obtain ⟨t168, A20, H⟩ := H
  replace H : (if t168 = true then ((octet_List.f k l0).bind fun bt169 => ((counterfoilref01_List.f k l0).bind fun bt171 => (if bt169.1.toList = bt171.1.toList then (if bt169.2 = bt171.2 then ((counterfoillaw01_awake.f k).bind fun t173 => (some t173)) else (some false)) else (some false)))) else ((counterfoillaw01_awake.f k).bind fun t174 => (some t174))) = some r := H
  have A2 := Aside0.mk A20
  clear A20
  by_cases c3 : t168 = true
  · subst c3
    have H1 : ((octet_List.f k l0).bind fun bt169 => ((counterfoilref01_List.f k l0).bind fun bt171 => (if bt169.1.toList = bt171.1.toList then (if bt169.2 = bt171.2 then ((counterfoillaw01_awake.f k).bind fun t173 => (some t173)) else (some false)) else (some false)))) = some r := by rw [if_pos rfl] at H; exact H
    clear H
    have H := H1
    clear H1
    replace H := Option.bind_eq_some_iff.mp H
    obtain ⟨⟨t169, t170⟩, A40, H⟩ := H
    replace H : ((counterfoilref01_List.f k l0).bind fun bt171 => (if t169.toList = bt171.1.toList then (if t170 = bt171.2 then ((counterfoillaw01_awake.f k).bind fun t173 => (some t173)) else (some false)) else (some false))) = some r := H
    have A4 := Aside0.mk A40
    clear A40
    replace H := Option.bind_eq_some_iff.mp H
    obtain ⟨⟨t171, t172⟩, A50, H⟩ := H
    replace H : (if t169.toList = t171.toList then (if t170 = t172 then ((counterfoillaw01_awake.f k).bind fun t173 => (some t173)) else (some false)) else (some false)) = some r := H
    have A5 := Aside0.mk A50
    clear A50
    by_cases c6 : t169.toList = t171.toList
    · rw [if_pos c6] at H
      have c6b0 : (t169.toList == t171.toList) = true := beq_iff_eq.mpr c6
      have c6b1 : (t169.toList != t171.toList) = false := bne_eq_false_iff_eq.mpr c6
      clear c6
      by_cases c7 : t170 = t172
      · rw [if_pos c7] at H
        have c7b0 : (t170 == t172) = true := beq_iff_eq.mpr c7
        have c7b1 : (t170 != t172) = false := bne_eq_false_iff_eq.mpr c7
        clear c7
        replace H := Option.bind_eq_some_iff.mp H
        obtain ⟨t173, A80, H⟩ := H
        replace H : (some t173) = some r := H
        have A8 := Aside0.mk A80
        clear A80
        obtain rfl := Option.some.inj H
        go_enter Try.func9, Try.ntmps9
        go_wp2_with (first | ((with_reducible refine gate_callee (f := 21) rfl ?_); refine goesL_ (some 8) rfl rfl Try.func21 (by kernel_rfl) rfl #[.slice A0 l0.length c0, .int .i64 200, .int .i64 262144] rfl (by (try simp only [List.map_toArray, List.map_cons, List.map_nil]); first | done | rfl | (simp only [List.length_drop, List.length_take]; rfl)) ?_; (with_reducible refine (counterfoilref01_Small.calls k _ _ l0 200 262144 true _ ?side1 ?side2 A2.out).mono ?_); (case side1 => repeat (first | exact HR0.out | (with_reducible refine Kd.C_alloc ?_ _) | (with_reducible refine Kd.C_drewN ?_ _) | (with_reducible refine Kd.C_drew ?_))); (case side2 => exact HC0.out); rintro e w' ⟨rfl, ⟨nd, rfl⟩⟩; refine ⟨_, rfl, ?_⟩) | ((with_reducible refine gate_callee (f := 22) rfl ?_); refine goesL_ (some 13) rfl rfl Try.func22 (by kernel_rfl) rfl #[.slice A0 l0.length c0] rfl (by (try simp only [List.map_toArray, List.map_cons, List.map_nil]); first | done | rfl | (simp only [List.length_drop, List.length_take]; rfl)) ?_; (with_reducible refine (octet_List.calls k _ _ l0 t169 t170 _ ?side1 ?side2 A4.out).mono ?_); (case side1 => repeat (first | exact HR0.out | (with_reducible refine Kd.C_alloc ?_ _) | (with_reducible refine Kd.C_drewN ?_ _) | (with_reducible refine Kd.C_drew ?_))); (case side2 => exact HC0.out); rintro e w9 ⟨rfl, hb⟩; refine ⟨_, rfl, ?_⟩; have n0_ := Aside0.mk (below_step (by repeat (first | (with_reducible first | exact HB.out | apply below_alloc | apply pw_below_drewN | apply below_drew1) | exact HB.out)) hb); clear HB; have HB := n0_; clear n0_; (try clear hb); (try clear hb2); (try clear hk); (try clear hi)) | ((with_reducible refine gate_callee (f := 23) rfl ?_); refine goesL_ (some 18) rfl rfl Try.func23 (by kernel_rfl) rfl #[.slice A0 l0.length c0] rfl (by (try simp only [List.map_toArray, List.map_cons, List.map_nil]); first | done | rfl | (simp only [List.length_drop, List.length_take]; rfl)) ?_; (with_reducible refine (counterfoilref01_List.calls k _ _ l0 t171 t172 _ ?side1 ?side2 A5.out).mono ?_); (case side1 => repeat (first | exact (Kd.C_below HR0.out HB.out) | (with_reducible refine Kd.C_alloc ?_ _) | (with_reducible refine Kd.C_drewN ?_ _) | (with_reducible refine Kd.C_drew ?_))); (case side2 => exact HC0.out); rintro e w10 ⟨rfl, hb⟩; refine ⟨_, rfl, ?_⟩; have n0_ := Aside0.mk (below_step (by repeat (first | (with_reducible first | exact HB.out | apply below_alloc | apply pw_below_drewN | apply below_drew1) | exact HB.out)) hb); clear HB; have HB := n0_; clear n0_; (try clear hb); (try clear hb2); (try clear hk); (try clear hi)) | (go_at_call 16; (with_reducible refine (counterfoillaw01_awake.calls k  t173 _ A8.out).mono ?_); rintro e w11 ⟨rfl, hb⟩; have n0_ := Aside0.mk (below_step (by repeat (first | (with_reducible first | exact HB.out | apply below_alloc | apply pw_below_drewN | apply below_drew1) | exact HB.out)) hb); clear HB; have HB := n0_; clear n0_; (try clear hb); (try clear hb2); (try clear hk); (try clear hi)))
        go_ret
        exact ⟨by first | rfl | (simp [errW_none, errW_some] <;> rfl) | (simp [*, errW_none, errW_some] <;> rfl), by repeat (first | (with_reducible first | exact HB.out | apply below_alloc | apply pw_below_drewN | apply below_drew1) | exact HB.out)⟩
      · rw [if_neg c7] at H
        have c7b0 : (t170 == t172) = false := beq_eq_false_iff_ne.mpr c7
        have c7b1 : (t170 != t172) = true := bne_iff_ne.mpr c7
        obtain rfl := Option.some.inj H
        go_enter Try.func9, Try.ntmps9
        go_wp2_with (first | ((with_reducible refine gate_callee (f := 21) rfl ?_); refine goesL_ (some 8) rfl rfl Try.func21 (by kernel_rfl) rfl #[.slice A0 l0.length c0, .int .i64 200, .int .i64 262144] rfl (by (try simp only [List.map_toArray, List.map_cons, List.map_nil]); first | done | rfl | (simp only [List.length_drop, List.length_take]; rfl)) ?_; (with_reducible refine (counterfoilref01_Small.calls k _ _ l0 200 262144 true _ ?side1 ?side2 A2.out).mono ?_); (case side1 => repeat (first | exact HR0.out | (with_reducible refine Kd.C_alloc ?_ _) | (with_reducible refine Kd.C_drewN ?_ _) | (with_reducible refine Kd.C_drew ?_))); (case side2 => exact HC0.out); rintro e w' ⟨rfl, ⟨nd, rfl⟩⟩; refine ⟨_, rfl, ?_⟩) | ((with_reducible refine gate_callee (f := 22) rfl ?_); refine goesL_ (some 13) rfl rfl Try.func22 (by kernel_rfl) rfl #[.slice A0 l0.length c0] rfl (by (try simp only [List.map_toArray, List.map_cons, List.map_nil]); first | done | rfl | (simp only [List.length_drop, List.length_take]; rfl)) ?_; (with_reducible refine (octet_List.calls k _ _ l0 t169 t170 _ ?side1 ?side2 A4.out).mono ?_); (case side1 => repeat (first | exact HR0.out | (with_reducible refine Kd.C_alloc ?_ _) | (with_reducible refine Kd.C_drewN ?_ _) | (with_reducible refine Kd.C_drew ?_))); (case side2 => exact HC0.out); rintro e w12 ⟨rfl, hb⟩; refine ⟨_, rfl, ?_⟩; have n0_ := Aside0.mk (below_step (by repeat (first | (with_reducible first | exact HB.out | apply below_alloc | apply pw_below_drewN | apply below_drew1) | exact HB.out)) hb); clear HB; have HB := n0_; clear n0_; (try clear hb); (try clear hb2); (try clear hk); (try clear hi)) | ((with_reducible refine gate_callee (f := 23) rfl ?_); refine goesL_ (some 18) rfl rfl Try.func23 (by kernel_rfl) rfl #[.slice A0 l0.length c0] rfl (by (try simp only [List.map_toArray, List.map_cons, List.map_nil]); first | done | rfl | (simp only [List.length_drop, List.length_take]; rfl)) ?_; (with_reducible refine (counterfoilref01_List.calls k _ _ l0 t171 t172 _ ?side1 ?side2 A5.out).mono ?_); (case side1 => repeat (first | exact (Kd.C_below HR0.out HB.out) | (with_reducible refine Kd.C_alloc ?_ _) | (with_reducible refine Kd.C_drewN ?_ _) | (with_reducible refine Kd.C_drew ?_))); (case side2 => exact HC0.out); rintro e w13 ⟨rfl, hb⟩; refine ⟨_, rfl, ?_⟩; have n0_ := Aside0.mk (below_step (by repeat (first | (with_reducible first | exact HB.out | apply below_alloc | apply pw_below_drewN | apply below_drew1) | exact HB.out)) hb); clear HB; have HB := n0_; clear n0_; (try clear hb); (try clear hb2); (try clear hk); (try clear hi)))
        go_ret
        exact ⟨by first | rfl | (simp [errW_none, errW_some] <;> rfl) | (simp [*, errW_none, errW_some] <;> rfl), by repeat (first | (with_reducible first | exact HB.out | apply below_alloc | apply pw_below_drewN | apply below_drew1) | exact HB.out)⟩
    · rw [if_neg c6] at H
      have c6b0 : (t169.toList == t171.toList) = false := beq_eq_false_iff_ne.mpr c6
      have c6b1 : (t169.toList != t171.toList) = true := bne_iff_ne.mpr c6
      obtain rfl := Option.some.inj H
      go_enter Try.func9, Try.ntmps9
      go_wp2_with (first | ((with_reducible refine gate_callee (f := 21) rfl ?_); refine goesL_ (some 8) rfl rfl Try.func21 (by kernel_rfl) rfl #[.slice A0 l0.length c0, .int .i64 200, .int .i64 262144] rfl (by (try simp only [List.map_toArray, List.map_cons, List.map_nil]); first | done | rfl | (simp only [List.length_drop, List.length_take]; rfl)) ?_; (with_reducible refine (counterfoilref01_Small.calls k _ _ l0 200 262144 true _ ?side1 ?side2 A2.out).mono ?_); (case side1 => repeat (first | exact HR0.out | (with_reducible refine Kd.C_alloc ?_ _) | (with_reducible refine Kd.C_drewN ?_ _) | (with_reducible refine Kd.C_drew ?_))); (case side2 => exact HC0.out); rintro e w' ⟨rfl, ⟨nd, rfl⟩⟩; refine ⟨_, rfl, ?_⟩) | ((with_reducible refine gate_callee (f := 22) rfl ?_); refine goesL_ (some 13) rfl rfl Try.func22 (by kernel_rfl) rfl #[.slice A0 l0.length c0] rfl (by (try simp only [List.map_toArray, List.map_cons, List.map_nil]); first | done | rfl | (simp only [List.length_drop, List.length_take]; rfl)) ?_; (with_reducible refine (octet_List.calls k _ _ l0 t169 t170 _ ?side1 ?side2 A4.out).mono ?_); (case side1 => repeat (first | exact HR0.out | (with_reducible refine Kd.C_alloc ?_ _) | (with_reducible refine Kd.C_drewN ?_ _) | (with_reducible refine Kd.C_drew ?_))); (case side2 => exact HC0.out); rintro e w14 ⟨rfl, hb⟩; refine ⟨_, rfl, ?_⟩; have n0_ := Aside0.mk (below_step (by repeat (first | (with_reducible first | exact HB.out | apply below_alloc | apply pw_below_drewN | apply below_drew1) | exact HB.out)) hb); clear HB; have HB := n0_; clear n0_; (try clear hb); (try clear hb2); (try clear hk); (try clear hi)) | ((with_reducible refine gate_callee (f := 23) rfl ?_); refine goesL_ (some 18) rfl rfl Try.func23 (by kernel_rfl) rfl #[.slice A0 l0.length c0] rfl (by (try simp only [List.map_toArray, List.map_cons, List.map_nil]); first | done | rfl | (simp only [List.length_drop, List.length_take]; rfl)) ?_; (with_reducible refine (counterfoilref01_List.calls k _ _ l0 t171 t172 _ ?side1 ?side2 A5.out).mono ?_); (case side1 => repeat (first | exact (Kd.C_below HR0.out HB.out) | (with_reducible refine Kd.C_alloc ?_ _) | (with_reducible refine Kd.C_drewN ?_ _) | (with_reducible refine Kd.C_drew ?_))); (case side2 => exact HC0.out); rintro e w15 ⟨rfl, hb⟩; refine ⟨_, rfl, ?_⟩; have n0_ := Aside0.mk (below_step (by repeat (first | (with_reducible first | exact HB.out | apply below_alloc | apply pw_below_drewN | apply below_drew1) | exact HB.out)) hb); clear HB; have HB := n0_; clear n0_; (try clear hb); (try clear hb2); (try clear hk); (try clear hi)))
      go_ret
      exact ⟨by first | rfl | (simp [errW_none, errW_some] <;> rfl) | (simp [*, errW_none, errW_some] <;> rfl), by repeat (first | (with_reducible first | exact HB.out | apply below_alloc | apply pw_below_drewN | apply below_drew1) | exact HB.out)⟩
  · replace c3 := Bool.eq_false_iff.mpr c3
    subst c3
    have H1 : ((counterfoillaw01_awake.f k).bind fun t174 => (some t174)) = some r := by rw [if_neg (show ¬ (false = true) by decide)] at H; exact H
    clear H
    have H := H1
    clear H1
    replace H := Option.bind_eq_some_iff.mp H
    obtain ⟨t174, A160, H⟩ := H
    replace H : (some t174) = some r := H
    have A16 := Aside0.mk A160
    clear A160
    obtain rfl := Option.some.inj H
    go_enter Try.func9, Try.ntmps9
    go_wp2_with (first | ((with_reducible refine gate_callee (f := 21) rfl ?_); refine goesL_ (some 8) rfl rfl Try.func21 (by kernel_rfl) rfl #[.slice A0 l0.length c0, .int .i64 200, .int .i64 262144] rfl (by (try simp only [List.map_toArray, List.map_cons, List.map_nil]); first | done | rfl | (simp only [List.length_drop, List.length_take]; rfl)) ?_; (with_reducible refine (counterfoilref01_Small.calls k _ _ l0 200 262144 false _ ?side1 ?side2 A2.out).mono ?_); (case side1 => repeat (first | exact HR0.out | (with_reducible refine Kd.C_alloc ?_ _) | (with_reducible refine Kd.C_drewN ?_ _) | (with_reducible refine Kd.C_drew ?_))); (case side2 => exact HC0.out); rintro e w' ⟨rfl, ⟨nd, rfl⟩⟩; refine ⟨_, rfl, ?_⟩) | ((with_reducible refine gate_callee (f := 16) rfl ?_); refine goesL_ (some 10) rfl rfl Try.func16 (by kernel_rfl) rfl #[] rfl (by (try simp only [List.map_toArray, List.map_cons, List.map_nil]); first | done | rfl | (simp only [List.length_drop, List.length_take]; rfl)) ?_; (with_reducible refine (counterfoillaw01_awake.calls k  t174 _ A16.out).mono ?_); rintro e w17 ⟨rfl, hb⟩; refine ⟨_, rfl, ?_⟩; have n0_ := Aside0.mk (below_step (by repeat (first | (with_reducible first | exact HB.out | apply below_alloc | apply pw_below_drewN | apply below_drew1) | exact HB.out)) hb); clear HB; have HB := n0_; clear n0_; (try clear hb); (try clear hb2); (try clear hk); (try clear hi)))
    go_ret
    exact ⟨by first | rfl | (simp [errW_none, errW_some] <;> rfl) | (simp [*, errW_none, errW_some] <;> rfl), by repeat (first | (with_reducible first | exact HB.out | apply below_alloc | apply pw_below_drewN | apply below_drew1) | exact HB.out)⟩

/-- THE ONE PURE STATEMENT of counterfoillaw01_OctetLists: yours. -/
def counterfoillaw01_OctetLists.Pure : Prop := ∀ (l0 : List ByteArray), (l0.length * 16 ≤ 140737488351232 ∧ l0.length ≤ 9223372036854775807 ∧ ∀ y0 ∈ l0, y0.size ≤ 140737488351232) → ∃ k, counterfoillaw01_OctetLists.f k l0 = some true

/-! ### octet_Take: function 26 -/
def octet_Take.f (k : Nat) (a0 : ByteArray) : Option (ByteArray × ByteArray × Int) := (octet_Number.f k a0 2).bind fun bt175 => (if bt175.2.2 = 0 then (if (bt175.2.1.size : Int) < bt175.1 then (some ((⟨#[]⟩ : ByteArray), (⟨#[]⟩ : ByteArray), 2)) else (if 0 ≤ bt175.1 then (if bt175.1 ≤ (bt175.2.1.size : Int) then (some (bt175.2.1.extract 0 (bt175.1 : Int).toNat, bt175.2.1.extract (bt175.1 : Int).toNat bt175.2.1.size, 0)) else (none)) else (none))) else (some ((⟨#[]⟩ : ByteArray), (⟨#[]⟩ : ByteArray), 2)))
theorem octet_Take.mono : ∀ a0 k, LeO (octet_Take.f k a0) (octet_Take.f (k + 1) a0) := by
  intro a0 k
  unfold octet_Take.f
  repeat' first
      | (with_reducible exact octet_Number.mono _ _ _)
      | (with_reducible exact LeO.refl _)
      | (with_reducible exact LeO.none _)
      | (with_reducible refine LeO.ite ?_ ?_)
      | (with_reducible refine LeO.bind ?_ (fun _ => ?_))
      | exact octet_Number.mono _ _ _
      | exact LeO.none _
      | refine LeO.ite ?_ ?_
      | refine LeO.bind ?_ (fun _ => ?_)
set_option maxHeartbeats 8000000 in
set_option maxRecDepth 100000 in
theorem octet_Take.calls (k : Nat) (a0 : ByteArray) (r1 : ByteArray) (r2 : ByteArray) (r3 : Int) (w : World) (h : octet_Take.f k a0 = some (r1, r2, r3)) :
    Calls Try.prog 26 #[.string a0] w fun e w' => e = .returned (.tuple #[.string r1, .string r2, .int .i64 r3]) ∧ Drawn0 w w' := by
  have H : ((octet_Number.f k a0 2).bind fun bt175 => (if bt175.2.2 = 0 then (if (bt175.2.1.size : Int) < bt175.1 then (some ((⟨#[]⟩ : ByteArray), (⟨#[]⟩ : ByteArray), 2)) else (if 0 ≤ bt175.1 then (if bt175.1 ≤ (bt175.2.1.size : Int) then (some (bt175.2.1.extract 0 (bt175.1 : Int).toNat, bt175.2.1.extract (bt175.1 : Int).toNat bt175.2.1.size, 0)) else (none)) else (none))) else (some ((⟨#[]⟩ : ByteArray), (⟨#[]⟩ : ByteArray), 2)))) = some (r1, r2, r3) := h
  clear h
  replace H := Option.bind_eq_some_iff.mp H
  obtain ⟨⟨t175, t176, t177⟩, A20, H⟩ := H
  replace H : (if t177 = 0 then (if (t176.size : Int) < t175 then (some ((⟨#[]⟩ : ByteArray), (⟨#[]⟩ : ByteArray), 2)) else (if 0 ≤ t175 then (if t175 ≤ (t176.size : Int) then (some (t176.extract 0 (t175 : Int).toNat, t176.extract (t175 : Int).toNat t176.size, 0)) else (none)) else (none))) else (some ((⟨#[]⟩ : ByteArray), (⟨#[]⟩ : ByteArray), 2))) = some (r1, r2, r3) := H
  have A2 := Aside0.mk A20
  clear A20
  by_cases c3 : t177 = 0
  · rw [if_pos c3] at H
    have c3b0 : (t177 == 0) = true := beq_iff_eq.mpr c3
    have c3b1 : (t177 != 0) = false := bne_eq_false_iff_eq.mpr c3
    clear c3
    by_cases c4 : (t176.size : Int) < t175
    · rw [if_pos c4] at H
      have c4b0 : decide ((t176.size : Int) < t175) = true := decide_eq_true c4
      clear c4
      simp only [Option.some.injEq, Prod.mk.injEq] at H
      obtain ⟨rfl, rfl, rfl⟩ := H
      go_enter Try.func26, Try.ntmps26
      go_wp2_with (first | (go_at_call 19; (with_reducible refine (octet_Number.calls k a0 2 t175 t176 t177 _ A2.out).mono ?_); rintro e w' ⟨rfl, ⟨nd, rfl⟩⟩; (try first | exact ⟨rfl, _, World.drewN_drewN _ _ _⟩ | exact ⟨rfl, _, Eq.trans (World.drewN_drewN _ _ _) (congrArg (World.drewN _) (Nat.add_assoc _ _ _))⟩)))
      repeat (go_quiet (first | (go_at_call 19; (with_reducible refine (octet_Number.calls k a0 2 t175 t176 t177 _ A2.out).mono ?_); rintro e w' ⟨rfl, ⟨nd, rfl⟩⟩; (try first | exact ⟨rfl, _, World.drewN_drewN _ _ _⟩ | exact ⟨rfl, _, Eq.trans (World.drewN_drewN _ _ _) (congrArg (World.drewN _) (Nat.add_assoc _ _ _))⟩))); try go_wp2_with (first | (go_at_call 19; (with_reducible refine (octet_Number.calls k a0 2 t175 t176 t177 _ A2.out).mono ?_); rintro e w' ⟨rfl, ⟨nd, rfl⟩⟩; (try first | exact ⟨rfl, _, World.drewN_drewN _ _ _⟩ | exact ⟨rfl, _, Eq.trans (World.drewN_drewN _ _ _) (congrArg (World.drewN _) (Nat.add_assoc _ _ _))⟩))))
      go_ret3
      exact ⟨by first | rfl | (simp; done) | (simp [*]; done), by repeat (first | exact Drawn0.refl _ | apply Drawn0.step)⟩
    · rw [if_neg c4] at H
      have c4b0 : decide ((t176.size : Int) < t175) = false := decide_eq_false c4
      clear c4
      by_cases c5 : 0 ≤ t175
      · rw [if_pos c5] at H
        have c5b0 := eq_true c5
        have c5b1 : decide (0 ≤ t175) = true := decide_eq_true c5
        clear c5
        by_cases c6 : t175 ≤ (t176.size : Int)
        · rw [if_pos c6] at H
          have c6b0 := eq_true c6
          have c6b1 : decide (t175 ≤ (t176.size : Int)) = true := decide_eq_true c6
          clear c6
          have c7b0 := eq_true (of_decide_eq_true (by first | (with_reducible assumption) | assumption) : 0 ≤ t175)
          have c8b0 := eq_true (of_decide_eq_true (by first | (with_reducible assumption) | assumption) : t175 ≤ (t176.size : Int))
          simp only [Option.some.injEq, Prod.mk.injEq] at H
          obtain ⟨rfl, rfl, rfl⟩ := H
          go_enter Try.func26, Try.ntmps26
          go_wp2_with (first | (go_at_call 19; (with_reducible refine (octet_Number.calls k a0 2 t175 t176 t177 _ A2.out).mono ?_); rintro e w' ⟨rfl, ⟨nd, rfl⟩⟩; (try first | exact ⟨rfl, _, World.drewN_drewN _ _ _⟩ | exact ⟨rfl, _, Eq.trans (World.drewN_drewN _ _ _) (congrArg (World.drewN _) (Nat.add_assoc _ _ _))⟩)))
          repeat (go_quiet (first | (go_at_call 19; (with_reducible refine (octet_Number.calls k a0 2 t175 t176 t177 _ A2.out).mono ?_); rintro e w' ⟨rfl, ⟨nd, rfl⟩⟩; (try first | exact ⟨rfl, _, World.drewN_drewN _ _ _⟩ | exact ⟨rfl, _, Eq.trans (World.drewN_drewN _ _ _) (congrArg (World.drewN _) (Nat.add_assoc _ _ _))⟩))); try go_wp2_with (first | (go_at_call 19; (with_reducible refine (octet_Number.calls k a0 2 t175 t176 t177 _ A2.out).mono ?_); rintro e w' ⟨rfl, ⟨nd, rfl⟩⟩; (try first | exact ⟨rfl, _, World.drewN_drewN _ _ _⟩ | exact ⟨rfl, _, Eq.trans (World.drewN_drewN _ _ _) (congrArg (World.drewN _) (Nat.add_assoc _ _ _))⟩))))
          go_ret3
          exact ⟨by first | rfl | (simp; done) | (simp [*]; done), by repeat (first | exact Drawn0.refl _ | apply Drawn0.step)⟩
        · rw [if_neg c6] at H
          exact absurd H (by simp)
      · rw [if_neg c5] at H
        exact absurd H (by simp)
  · rw [if_neg c3] at H
    have c3b0 : (t177 == 0) = false := beq_eq_false_iff_ne.mpr c3
    have c3b1 : (t177 != 0) = true := bne_iff_ne.mpr c3
    simp only [Option.some.injEq, Prod.mk.injEq] at H
    obtain ⟨rfl, rfl, rfl⟩ := H
    go_enter Try.func26, Try.ntmps26
    go_wp2_with (first | (go_at_call 19; (with_reducible refine (octet_Number.calls k a0 2 t175 t176 t177 _ A2.out).mono ?_); rintro e w' ⟨rfl, ⟨nd, rfl⟩⟩; (try first | exact ⟨rfl, _, World.drewN_drewN _ _ _⟩ | exact ⟨rfl, _, Eq.trans (World.drewN_drewN _ _ _) (congrArg (World.drewN _) (Nat.add_assoc _ _ _))⟩)))
    repeat (go_quiet (first | (go_at_call 19; (with_reducible refine (octet_Number.calls k a0 2 t175 t176 t177 _ A2.out).mono ?_); rintro e w' ⟨rfl, ⟨nd, rfl⟩⟩; (try first | exact ⟨rfl, _, World.drewN_drewN _ _ _⟩ | exact ⟨rfl, _, Eq.trans (World.drewN_drewN _ _ _) (congrArg (World.drewN _) (Nat.add_assoc _ _ _))⟩))); try go_wp2_with (first | (go_at_call 19; (with_reducible refine (octet_Number.calls k a0 2 t175 t176 t177 _ A2.out).mono ?_); rintro e w' ⟨rfl, ⟨nd, rfl⟩⟩; (try first | exact ⟨rfl, _, World.drewN_drewN _ _ _⟩ | exact ⟨rfl, _, Eq.trans (World.drewN_drewN _ _ _) (congrArg (World.drewN _) (Nat.add_assoc _ _ _))⟩))))
    go_ret3
    exact ⟨by first | rfl | (simp; done) | (simp [*]; done), by repeat (first | exact Drawn0.refl _ | apply Drawn0.step)⟩

/-! ### counterfoilref01_Take: function 27 -/
def counterfoilref01_Take.f (a0 : ByteArray) : Option (ByteArray × ByteArray × Int) := if (a0.size : Int) < 2 then (some ((⟨#[]⟩ : ByteArray), (⟨#[]⟩ : ByteArray), 2)) else (if 0 < (a0.size : Int) then (if 1 < (a0.size : Int) then (if (wrap64 ((a0.size : Int) - 2)) < (wrap64 ((wrap64 (256 * (wrap64 (bt a0 0)))) + (wrap64 (bt a0 1)))) then (some ((⟨#[]⟩ : ByteArray), (⟨#[]⟩ : ByteArray), 2)) else (if 2 ≤ (wrap64 (2 + (wrap64 ((wrap64 (256 * (wrap64 (bt a0 0)))) + (wrap64 (bt a0 1)))))) then (if (wrap64 (2 + (wrap64 ((wrap64 (256 * (wrap64 (bt a0 0)))) + (wrap64 (bt a0 1)))))) ≤ (a0.size : Int) then (if 0 ≤ (wrap64 (2 + (wrap64 ((wrap64 (256 * (wrap64 (bt a0 0)))) + (wrap64 (bt a0 1)))))) then (some (a0.extract 2 ((wrap64 (2 + (wrap64 ((wrap64 (256 * (wrap64 (bt a0 0)))) + (wrap64 (bt a0 1)))))) : Int).toNat, a0.extract ((wrap64 (2 + (wrap64 ((wrap64 (256 * (wrap64 (bt a0 0)))) + (wrap64 (bt a0 1)))))) : Int).toNat a0.size, 0)) else (none)) else (none)) else (none))) else (none)) else (none))
set_option maxHeartbeats 8000000 in
set_option maxRecDepth 100000 in
theorem counterfoilref01_Take.calls (a0 : ByteArray) (r1 : ByteArray) (r2 : ByteArray) (r3 : Int) (w : World) (h : counterfoilref01_Take.f a0 = some (r1, r2, r3)) :
    Calls Try.prog 27 #[.string a0] w fun e w' => e = .returned (.tuple #[.string r1, .string r2, .int .i64 r3]) ∧ Drawn0 w w' := by
  have H : (if (a0.size : Int) < 2 then (some ((⟨#[]⟩ : ByteArray), (⟨#[]⟩ : ByteArray), 2)) else (if 0 < (a0.size : Int) then (if 1 < (a0.size : Int) then (if (wrap64 ((a0.size : Int) - 2)) < (wrap64 ((wrap64 (256 * (wrap64 (bt a0 0)))) + (wrap64 (bt a0 1)))) then (some ((⟨#[]⟩ : ByteArray), (⟨#[]⟩ : ByteArray), 2)) else (if 2 ≤ (wrap64 (2 + (wrap64 ((wrap64 (256 * (wrap64 (bt a0 0)))) + (wrap64 (bt a0 1)))))) then (if (wrap64 (2 + (wrap64 ((wrap64 (256 * (wrap64 (bt a0 0)))) + (wrap64 (bt a0 1)))))) ≤ (a0.size : Int) then (if 0 ≤ (wrap64 (2 + (wrap64 ((wrap64 (256 * (wrap64 (bt a0 0)))) + (wrap64 (bt a0 1)))))) then (some (a0.extract 2 ((wrap64 (2 + (wrap64 ((wrap64 (256 * (wrap64 (bt a0 0)))) + (wrap64 (bt a0 1)))))) : Int).toNat, a0.extract ((wrap64 (2 + (wrap64 ((wrap64 (256 * (wrap64 (bt a0 0)))) + (wrap64 (bt a0 1)))))) : Int).toNat a0.size, 0)) else (none)) else (none)) else (none))) else (none)) else (none))) = some (r1, r2, r3) := h
  clear h
  by_cases c2 : (a0.size : Int) < 2
  · rw [if_pos c2] at H
    have c2b0 : decide ((a0.size : Int) < 2) = true := decide_eq_true c2
    have c2b1 : decide (a0.size < 2) = true := decide_eq_true (by omega)
    clear c2
    simp only [Option.some.injEq, Prod.mk.injEq] at H
    obtain ⟨rfl, rfl, rfl⟩ := H
    go_enter Try.func27, Try.ntmps27
    go_wp2
    repeat (go_quiet (fail); try go_wp2)
    go_ret3
    exact ⟨by first | rfl | (simp; done) | (simp [*]; done), by repeat (first | exact Drawn0.refl _ | apply Drawn0.step)⟩
  · rw [if_neg c2] at H
    have c2b0 : decide ((a0.size : Int) < 2) = false := decide_eq_false c2
    have c2b1 : decide (a0.size < 2) = false := decide_eq_false (by omega)
    clear c2
    by_cases c3 : 0 < (a0.size : Int)
    · rw [if_pos c3] at H
      have c3b0 : decide (0 < (a0.size : Int)) = true := decide_eq_true c3
      have c3b1 : decide (0 < a0.size) = true := decide_eq_true (by omega)
      clear c3
      by_cases c5 : 1 < (a0.size : Int)
      · rw [if_pos c5] at H
        have c5b0 : decide (1 < (a0.size : Int)) = true := decide_eq_true c5
        have c5b1 : decide (1 < a0.size) = true := decide_eq_true (by omega)
        clear c5
        by_cases c7 : (wrap64 ((a0.size : Int) - 2)) < (wrap64 ((wrap64 (256 * (wrap64 (bt a0 0)))) + (wrap64 (bt a0 1))))
        · rw [if_pos c7] at H
          have c7b0 : decide ((wrap64 ((a0.size : Int) - 2)) < (wrap64 ((wrap64 (256 * (wrap64 (bt a0 0)))) + (wrap64 (bt a0 1))))) = true := decide_eq_true c7
          clear c7
          simp only [Option.some.injEq, Prod.mk.injEq] at H
          obtain ⟨rfl, rfl, rfl⟩ := H
          have p4 : 0 ≤ (0 : Int) := (by omega)
          have q4 : 0 < a0.size := (by have : (0 : Int) < (a0.size : Int) := of_decide_eq_true (by first | (with_reducible assumption) | assumption); omega)
          have hx4 : ∀ h : 0 < a0.size, ((a0[0]'h).toNat : Int) = bt a0 0 := bt_at a0 0
          clear p4
          have qi4 : (0 < (a0.size : Int)) = True := eq_true (of_decide_eq_true (by first | (with_reducible assumption) | assumption))
          replace q4 := eq_true q4
          have p6 : 0 ≤ (1 : Int) := (by omega)
          have q6 : 1 < a0.size := (by have : (1 : Int) < (a0.size : Int) := of_decide_eq_true (by first | (with_reducible assumption) | assumption); omega)
          have hx6 : ∀ h : 1 < a0.size, ((a0[1]'h).toNat : Int) = bt a0 1 := bt_at a0 1
          clear p6
          have qi6 : (1 < (a0.size : Int)) = True := eq_true (of_decide_eq_true (by first | (with_reducible assumption) | assumption))
          replace q6 := eq_true q6
          go_enter Try.func27, Try.ntmps27
          go_wp2
          repeat (go_quiet (fail); try go_wp2)
          go_ret3
          exact ⟨by first | rfl | (simp; done) | (simp [*]; done), by repeat (first | exact Drawn0.refl _ | apply Drawn0.step)⟩
        · rw [if_neg c7] at H
          have c7b0 : decide ((wrap64 ((a0.size : Int) - 2)) < (wrap64 ((wrap64 (256 * (wrap64 (bt a0 0)))) + (wrap64 (bt a0 1))))) = false := decide_eq_false c7
          clear c7
          by_cases c8 : 2 ≤ (wrap64 (2 + (wrap64 ((wrap64 (256 * (wrap64 (bt a0 0)))) + (wrap64 (bt a0 1))))))
          · rw [if_pos c8] at H
            have c8b0 := eq_true c8
            have c8b1 : decide (2 ≤ (wrap64 (2 + (wrap64 ((wrap64 (256 * (wrap64 (bt a0 0)))) + (wrap64 (bt a0 1))))))) = true := decide_eq_true c8
            by_cases c9 : (wrap64 (2 + (wrap64 ((wrap64 (256 * (wrap64 (bt a0 0)))) + (wrap64 (bt a0 1)))))) ≤ (a0.size : Int)
            · rw [if_pos c9] at H
              have c9b0 := eq_true c9
              have c9b1 : decide ((wrap64 (2 + (wrap64 ((wrap64 (256 * (wrap64 (bt a0 0)))) + (wrap64 (bt a0 1)))))) ≤ (a0.size : Int)) = true := decide_eq_true c9
              obtain ⟨ji10, hji10⟩ : ∃ j_ : Int, (wrap64 (2 + (wrap64 ((wrap64 (256 * (wrap64 (bt a0 0)))) + (wrap64 (bt a0 1)))))) = j_ := ⟨_, rfl⟩
              replace H : (if 0 ≤ (ji10) then (some (a0.extract 2 ((ji10) : Int).toNat, a0.extract ((ji10) : Int).toNat a0.size, 0)) else (none)) = some (r1, r2, r3) := by first | (rw [hji10] at H; exact H) | (simp only [hji10] at H ⊢; exact H)
              (try rw [hji10] at c8b0)
              (try rw [hji10] at c8b1)
              (try rw [hji10] at c8)
              (try rw [hji10] at c9b0)
              (try rw [hji10] at c9b1)
              (try rw [hji10] at c9)
              have hji10w : (IntKind.i64.wrap (2 + (wrap64 ((wrap64 (256 * (wrap64 (bt a0 0)))) + (wrap64 (bt a0 1)))))) = ji10 := (i64_w _).trans hji10
              by_cases c11 : 0 ≤ (ji10)
              · rw [if_pos c11] at H
                have c11b0 := eq_true c11
                have c11b1 : decide (0 ≤ (ji10)) = true := decide_eq_true c11
                clear c11
                have c12b0 := eq_true (of_decide_eq_true (by first | (with_reducible assumption) | assumption) : (ji10) ≤ (a0.size : Int))
                simp only [Option.some.injEq, Prod.mk.injEq] at H
                obtain ⟨rfl, rfl, rfl⟩ := H
                have p4 : 0 ≤ (0 : Int) := (by omega)
                have q4 : 0 < a0.size := (by have : (0 : Int) < (a0.size : Int) := of_decide_eq_true (by first | (with_reducible assumption) | assumption); omega)
                have hx4 : ∀ h : 0 < a0.size, ((a0[0]'h).toNat : Int) = bt a0 0 := bt_at a0 0
                clear p4
                have qi4 : (0 < (a0.size : Int)) = True := eq_true (of_decide_eq_true (by first | (with_reducible assumption) | assumption))
                replace q4 := eq_true q4
                have p6 : 0 ≤ (1 : Int) := (by omega)
                have q6 : 1 < a0.size := (by have : (1 : Int) < (a0.size : Int) := of_decide_eq_true (by first | (with_reducible assumption) | assumption); omega)
                have hx6 : ∀ h : 1 < a0.size, ((a0[1]'h).toNat : Int) = bt a0 1 := bt_at a0 1
                clear p6
                have qi6 : (1 < (a0.size : Int)) = True := eq_true (of_decide_eq_true (by first | (with_reducible assumption) | assumption))
                replace q6 := eq_true q6
                go_enter Try.func27, Try.ntmps27
                go_wp2
                repeat (go_quiet (fail); try go_wp2)
                go_ret3
                exact ⟨by first | rfl | (simp; done) | (simp only [← hji10] <;> (first | rfl | simp)) | (simp [*]; done), by repeat (first | exact Drawn0.refl _ | apply Drawn0.step)⟩
              · rw [if_neg c11] at H
                exact absurd H (by simp)
            · rw [if_neg c9] at H
              exact absurd H (by simp)
          · rw [if_neg c8] at H
            exact absurd H (by simp)
      · rw [if_neg c5] at H
        exact absurd H (by simp)
    · rw [if_neg c3] at H
      exact absurd H (by simp)

/-! ### counterfoillaw01_OctetTexts: function 10 -/
def counterfoillaw01_OctetTexts.f (k : Nat) (a0 : ByteArray) : Option (Bool) := (octet_Text.f k a0).bind fun bt178 => ((counterfoilref01_Text.f a0).bind fun bt180 => ((octet_Take.f k a0).bind fun bt182 => ((counterfoilref01_Take.f a0).bind fun bt185 => (if bt178.1.toList = bt180.1.toList then (if bt178.2 = bt180.2 then (if bt182.1.toList = bt185.1.toList then (if bt182.2.1.toList = bt185.2.1.toList then (if bt182.2.2 = bt185.2.2 then ((counterfoillaw01_awake.f k).bind fun t188 => (some t188)) else (some false)) else (some false)) else (some false)) else (some false)) else (some false)))))
theorem counterfoillaw01_OctetTexts.mono : ∀ a0 k, LeO (counterfoillaw01_OctetTexts.f k a0) (counterfoillaw01_OctetTexts.f (k + 1) a0) := by
  intro a0 k
  unfold counterfoillaw01_OctetTexts.f
  repeat' first
      | (with_reducible exact counterfoillaw01_awake.mono _)
      | (with_reducible exact octet_Take.mono _ _)
      | (with_reducible exact octet_Text.mono _ _)
      | (with_reducible exact LeO.refl _)
      | (with_reducible exact LeO.none _)
      | (with_reducible refine LeO.ite ?_ ?_)
      | (with_reducible refine LeO.bind ?_ (fun _ => ?_))
      | exact counterfoillaw01_awake.mono _
      | exact octet_Take.mono _ _
      | exact octet_Text.mono _ _
      | exact LeO.none _
      | refine LeO.ite ?_ ?_
      | refine LeO.bind ?_ (fun _ => ?_)
set_option maxHeartbeats 8000000 in
set_option maxRecDepth 100000 in
theorem counterfoillaw01_OctetTexts.calls (k : Nat) (a0 : ByteArray) (r : Bool) (w : World) (h : counterfoillaw01_OctetTexts.f k a0 = some r) :
    Calls Try.prog 10 #[.string a0] w fun e w' => e = .returned (.bool r) ∧ Below w.heap.size w w' := by
  have HB := Aside0.mk (Below.refl w.heap.size w)
  have H : ((octet_Text.f k a0).bind fun bt178 => ((counterfoilref01_Text.f a0).bind fun bt180 => ((octet_Take.f k a0).bind fun bt182 => ((counterfoilref01_Take.f a0).bind fun bt185 => (if bt178.1.toList = bt180.1.toList then (if bt178.2 = bt180.2 then (if bt182.1.toList = bt185.1.toList then (if bt182.2.1.toList = bt185.2.1.toList then (if bt182.2.2 = bt185.2.2 then ((counterfoillaw01_awake.f k).bind fun t188 => (some t188)) else (some false)) else (some false)) else (some false)) else (some false)) else (some false)))))) = some r := h
  clear h
  replace H := Option.bind_eq_some_iff.mp H
  obtain ⟨⟨t178, t179⟩, A20, H⟩ := H
  replace H : ((counterfoilref01_Text.f a0).bind fun bt180 => ((octet_Take.f k a0).bind fun bt182 => ((counterfoilref01_Take.f a0).bind fun bt185 => (if t178.toList = bt180.1.toList then (if t179 = bt180.2 then (if bt182.1.toList = bt185.1.toList then (if bt182.2.1.toList = bt185.2.1.toList then (if bt182.2.2 = bt185.2.2 then ((counterfoillaw01_awake.f k).bind fun t188 => (some t188)) else (some false)) else (some false)) else (some false)) else (some false)) else (some false))))) = some r := H
  have A2 := Aside0.mk A20
  clear A20
  replace H := Option.bind_eq_some_iff.mp H
  obtain ⟨⟨t180, t181⟩, A30, H⟩ := H
  replace H : ((octet_Take.f k a0).bind fun bt182 => ((counterfoilref01_Take.f a0).bind fun bt185 => (if t178.toList = t180.toList then (if t179 = t181 then (if bt182.1.toList = bt185.1.toList then (if bt182.2.1.toList = bt185.2.1.toList then (if bt182.2.2 = bt185.2.2 then ((counterfoillaw01_awake.f k).bind fun t188 => (some t188)) else (some false)) else (some false)) else (some false)) else (some false)) else (some false)))) = some r := H
  have A3 := Aside0.mk A30
  clear A30
  replace H := Option.bind_eq_some_iff.mp H
  obtain ⟨⟨t182, t183, t184⟩, A40, H⟩ := H
  replace H : ((counterfoilref01_Take.f a0).bind fun bt185 => (if t178.toList = t180.toList then (if t179 = t181 then (if t182.toList = bt185.1.toList then (if t183.toList = bt185.2.1.toList then (if t184 = bt185.2.2 then ((counterfoillaw01_awake.f k).bind fun t188 => (some t188)) else (some false)) else (some false)) else (some false)) else (some false)) else (some false))) = some r := H
  have A4 := Aside0.mk A40
  clear A40
  replace H := Option.bind_eq_some_iff.mp H
  obtain ⟨⟨t185, t186, t187⟩, A50, H⟩ := H
  replace H : (if t178.toList = t180.toList then (if t179 = t181 then (if t182.toList = t185.toList then (if t183.toList = t186.toList then (if t184 = t187 then ((counterfoillaw01_awake.f k).bind fun t188 => (some t188)) else (some false)) else (some false)) else (some false)) else (some false)) else (some false)) = some r := H
  have A5 := Aside0.mk A50
  clear A50
  by_cases c6 : t178.toList = t180.toList
  · rw [if_pos c6] at H
    have c6b0 : (t178.toList == t180.toList) = true := beq_iff_eq.mpr c6
    have c6b1 : (t178.toList != t180.toList) = false := bne_eq_false_iff_eq.mpr c6
    clear c6
    by_cases c7 : t179 = t181
    · rw [if_pos c7] at H
      have c7b0 : (t179 == t181) = true := beq_iff_eq.mpr c7
      have c7b1 : (t179 != t181) = false := bne_eq_false_iff_eq.mpr c7
      clear c7
      by_cases c8 : t182.toList = t185.toList
      · rw [if_pos c8] at H
        have c8b0 : (t182.toList == t185.toList) = true := beq_iff_eq.mpr c8
        have c8b1 : (t182.toList != t185.toList) = false := bne_eq_false_iff_eq.mpr c8
        clear c8
        by_cases c9 : t183.toList = t186.toList
        · rw [if_pos c9] at H
          have c9b0 : (t183.toList == t186.toList) = true := beq_iff_eq.mpr c9
          have c9b1 : (t183.toList != t186.toList) = false := bne_eq_false_iff_eq.mpr c9
          clear c9
          by_cases c10 : t184 = t187
          · rw [if_pos c10] at H
            have c10b0 : (t184 == t187) = true := beq_iff_eq.mpr c10
            have c10b1 : (t184 != t187) = false := bne_eq_false_iff_eq.mpr c10
            clear c10
            replace H := Option.bind_eq_some_iff.mp H
            obtain ⟨t188, A110, H⟩ := H
            replace H : (some t188) = some r := H
            have A11 := Aside0.mk A110
            clear A110
            obtain rfl := Option.some.inj H
            go_enter Try.func10, Try.ntmps10
            go_wp2_with (first | ((with_reducible refine gate_callee (f := 24) rfl ?_); refine goesL_ (some 15) rfl rfl Try.func24 (by kernel_rfl) rfl #[.string a0] rfl (by (try simp only [List.map_toArray, List.map_cons, List.map_nil]); first | done | rfl | (simp only [List.length_drop, List.length_take]; rfl)) ?_; (with_reducible refine (octet_Text.calls k a0 t178 t179 _ A2.out).mono ?_); rintro e w12 ⟨rfl, hb⟩; refine ⟨_, rfl, ?_⟩; have n0_ := Aside0.mk (below_step (by repeat (first | (with_reducible first | exact HB.out | apply below_alloc | apply pw_below_drewN | apply below_drew1) | exact HB.out)) hb); clear HB; have HB := n0_; clear n0_; (try clear hb); (try clear hb2); (try clear hk); (try clear hi)) | ((with_reducible refine gate_callee (f := 25) rfl ?_); refine goesL_ (some 20) rfl rfl Try.func25 (by kernel_rfl) rfl #[.string a0] rfl (by (try simp only [List.map_toArray, List.map_cons, List.map_nil]); first | done | rfl | (simp only [List.length_drop, List.length_take]; rfl)) ?_; (with_reducible refine (counterfoilref01_Text.calls a0 t180 t181 _ A3.out).mono ?_); rintro e w13 ⟨rfl, hb⟩; refine ⟨_, rfl, ?_⟩; have n0_ := Aside0.mk (below_step (by repeat (first | (with_reducible first | exact HB.out | apply below_alloc | apply pw_below_drewN | apply below_drew1) | exact HB.out)) hb); clear HB; have HB := n0_; clear n0_; (try clear hb); (try clear hb2); (try clear hk); (try clear hi)) | ((with_reducible refine gate_callee (f := 26) rfl ?_); refine goesL_ (some 25) rfl rfl Try.func26 (by kernel_rfl) rfl #[.string a0] rfl (by (try simp only [List.map_toArray, List.map_cons, List.map_nil]); first | done | rfl | (simp only [List.length_drop, List.length_take]; rfl)) ?_; (with_reducible refine (octet_Take.calls k a0 t182 t183 t184 _ A4.out).mono ?_); rintro e w' ⟨rfl, ⟨nd, rfl⟩⟩; refine ⟨_, rfl, ?_⟩) | ((with_reducible refine gate_callee (f := 27) rfl ?_); refine goesL_ (some 31) rfl rfl Try.func27 (by kernel_rfl) rfl #[.string a0] rfl (by (try simp only [List.map_toArray, List.map_cons, List.map_nil]); first | done | rfl | (simp only [List.length_drop, List.length_take]; rfl)) ?_; (with_reducible refine (counterfoilref01_Take.calls a0 t185 t186 t187 _ A5.out).mono ?_); rintro e w' ⟨rfl, ⟨nd, rfl⟩⟩; refine ⟨_, rfl, ?_⟩) | (go_at_call 16; (with_reducible refine (counterfoillaw01_awake.calls k  t188 _ A11.out).mono ?_); rintro e w14 ⟨rfl, hb⟩; have n0_ := Aside0.mk (below_step (by repeat (first | (with_reducible first | exact HB.out | apply below_alloc | apply pw_below_drewN | apply below_drew1) | exact HB.out)) hb); clear HB; have HB := n0_; clear n0_; (try clear hb); (try clear hb2); (try clear hk); (try clear hi)))
            go_ret
            exact ⟨by first | rfl | (simp [errW_none, errW_some] <;> rfl) | (simp [*, errW_none, errW_some] <;> rfl), by repeat (first | (with_reducible first | exact HB.out | apply below_alloc | apply pw_below_drewN | apply below_drew1) | exact HB.out)⟩
          · rw [if_neg c10] at H
            have c10b0 : (t184 == t187) = false := beq_eq_false_iff_ne.mpr c10
            have c10b1 : (t184 != t187) = true := bne_iff_ne.mpr c10
            obtain rfl := Option.some.inj H
            go_enter Try.func10, Try.ntmps10
            go_wp2_with (first | ((with_reducible refine gate_callee (f := 24) rfl ?_); refine goesL_ (some 15) rfl rfl Try.func24 (by kernel_rfl) rfl #[.string a0] rfl (by (try simp only [List.map_toArray, List.map_cons, List.map_nil]); first | done | rfl | (simp only [List.length_drop, List.length_take]; rfl)) ?_; (with_reducible refine (octet_Text.calls k a0 t178 t179 _ A2.out).mono ?_); rintro e w15 ⟨rfl, hb⟩; refine ⟨_, rfl, ?_⟩; have n0_ := Aside0.mk (below_step (by repeat (first | (with_reducible first | exact HB.out | apply below_alloc | apply pw_below_drewN | apply below_drew1) | exact HB.out)) hb); clear HB; have HB := n0_; clear n0_; (try clear hb); (try clear hb2); (try clear hk); (try clear hi)) | ((with_reducible refine gate_callee (f := 25) rfl ?_); refine goesL_ (some 20) rfl rfl Try.func25 (by kernel_rfl) rfl #[.string a0] rfl (by (try simp only [List.map_toArray, List.map_cons, List.map_nil]); first | done | rfl | (simp only [List.length_drop, List.length_take]; rfl)) ?_; (with_reducible refine (counterfoilref01_Text.calls a0 t180 t181 _ A3.out).mono ?_); rintro e w16 ⟨rfl, hb⟩; refine ⟨_, rfl, ?_⟩; have n0_ := Aside0.mk (below_step (by repeat (first | (with_reducible first | exact HB.out | apply below_alloc | apply pw_below_drewN | apply below_drew1) | exact HB.out)) hb); clear HB; have HB := n0_; clear n0_; (try clear hb); (try clear hb2); (try clear hk); (try clear hi)) | ((with_reducible refine gate_callee (f := 26) rfl ?_); refine goesL_ (some 25) rfl rfl Try.func26 (by kernel_rfl) rfl #[.string a0] rfl (by (try simp only [List.map_toArray, List.map_cons, List.map_nil]); first | done | rfl | (simp only [List.length_drop, List.length_take]; rfl)) ?_; (with_reducible refine (octet_Take.calls k a0 t182 t183 t184 _ A4.out).mono ?_); rintro e w' ⟨rfl, ⟨nd, rfl⟩⟩; refine ⟨_, rfl, ?_⟩) | ((with_reducible refine gate_callee (f := 27) rfl ?_); refine goesL_ (some 31) rfl rfl Try.func27 (by kernel_rfl) rfl #[.string a0] rfl (by (try simp only [List.map_toArray, List.map_cons, List.map_nil]); first | done | rfl | (simp only [List.length_drop, List.length_take]; rfl)) ?_; (with_reducible refine (counterfoilref01_Take.calls a0 t185 t186 t187 _ A5.out).mono ?_); rintro e w' ⟨rfl, ⟨nd, rfl⟩⟩; refine ⟨_, rfl, ?_⟩))
            go_ret
            exact ⟨by first | rfl | (simp [errW_none, errW_some] <;> rfl) | (simp [*, errW_none, errW_some] <;> rfl), by repeat (first | (with_reducible first | exact HB.out | apply below_alloc | apply pw_below_drewN | apply below_drew1) | exact HB.out)⟩
        · rw [if_neg c9] at H
          have c9b0 : (t183.toList == t186.toList) = false := beq_eq_false_iff_ne.mpr c9
          have c9b1 : (t183.toList != t186.toList) = true := bne_iff_ne.mpr c9
          obtain rfl := Option.some.inj H
          go_enter Try.func10, Try.ntmps10
          go_wp2_with (first | ((with_reducible refine gate_callee (f := 24) rfl ?_); refine goesL_ (some 15) rfl rfl Try.func24 (by kernel_rfl) rfl #[.string a0] rfl (by (try simp only [List.map_toArray, List.map_cons, List.map_nil]); first | done | rfl | (simp only [List.length_drop, List.length_take]; rfl)) ?_; (with_reducible refine (octet_Text.calls k a0 t178 t179 _ A2.out).mono ?_); rintro e w17 ⟨rfl, hb⟩; refine ⟨_, rfl, ?_⟩; have n0_ := Aside0.mk (below_step (by repeat (first | (with_reducible first | exact HB.out | apply below_alloc | apply pw_below_drewN | apply below_drew1) | exact HB.out)) hb); clear HB; have HB := n0_; clear n0_; (try clear hb); (try clear hb2); (try clear hk); (try clear hi)) | ((with_reducible refine gate_callee (f := 25) rfl ?_); refine goesL_ (some 20) rfl rfl Try.func25 (by kernel_rfl) rfl #[.string a0] rfl (by (try simp only [List.map_toArray, List.map_cons, List.map_nil]); first | done | rfl | (simp only [List.length_drop, List.length_take]; rfl)) ?_; (with_reducible refine (counterfoilref01_Text.calls a0 t180 t181 _ A3.out).mono ?_); rintro e w18 ⟨rfl, hb⟩; refine ⟨_, rfl, ?_⟩; have n0_ := Aside0.mk (below_step (by repeat (first | (with_reducible first | exact HB.out | apply below_alloc | apply pw_below_drewN | apply below_drew1) | exact HB.out)) hb); clear HB; have HB := n0_; clear n0_; (try clear hb); (try clear hb2); (try clear hk); (try clear hi)) | ((with_reducible refine gate_callee (f := 26) rfl ?_); refine goesL_ (some 25) rfl rfl Try.func26 (by kernel_rfl) rfl #[.string a0] rfl (by (try simp only [List.map_toArray, List.map_cons, List.map_nil]); first | done | rfl | (simp only [List.length_drop, List.length_take]; rfl)) ?_; (with_reducible refine (octet_Take.calls k a0 t182 t183 t184 _ A4.out).mono ?_); rintro e w' ⟨rfl, ⟨nd, rfl⟩⟩; refine ⟨_, rfl, ?_⟩) | ((with_reducible refine gate_callee (f := 27) rfl ?_); refine goesL_ (some 31) rfl rfl Try.func27 (by kernel_rfl) rfl #[.string a0] rfl (by (try simp only [List.map_toArray, List.map_cons, List.map_nil]); first | done | rfl | (simp only [List.length_drop, List.length_take]; rfl)) ?_; (with_reducible refine (counterfoilref01_Take.calls a0 t185 t186 t187 _ A5.out).mono ?_); rintro e w' ⟨rfl, ⟨nd, rfl⟩⟩; refine ⟨_, rfl, ?_⟩))
          go_ret
          exact ⟨by first | rfl | (simp [errW_none, errW_some] <;> rfl) | (simp [*, errW_none, errW_some] <;> rfl), by repeat (first | (with_reducible first | exact HB.out | apply below_alloc | apply pw_below_drewN | apply below_drew1) | exact HB.out)⟩
      · rw [if_neg c8] at H
        have c8b0 : (t182.toList == t185.toList) = false := beq_eq_false_iff_ne.mpr c8
        have c8b1 : (t182.toList != t185.toList) = true := bne_iff_ne.mpr c8
        obtain rfl := Option.some.inj H
        go_enter Try.func10, Try.ntmps10
        go_wp2_with (first | ((with_reducible refine gate_callee (f := 24) rfl ?_); refine goesL_ (some 15) rfl rfl Try.func24 (by kernel_rfl) rfl #[.string a0] rfl (by (try simp only [List.map_toArray, List.map_cons, List.map_nil]); first | done | rfl | (simp only [List.length_drop, List.length_take]; rfl)) ?_; (with_reducible refine (octet_Text.calls k a0 t178 t179 _ A2.out).mono ?_); rintro e w19 ⟨rfl, hb⟩; refine ⟨_, rfl, ?_⟩; have n0_ := Aside0.mk (below_step (by repeat (first | (with_reducible first | exact HB.out | apply below_alloc | apply pw_below_drewN | apply below_drew1) | exact HB.out)) hb); clear HB; have HB := n0_; clear n0_; (try clear hb); (try clear hb2); (try clear hk); (try clear hi)) | ((with_reducible refine gate_callee (f := 25) rfl ?_); refine goesL_ (some 20) rfl rfl Try.func25 (by kernel_rfl) rfl #[.string a0] rfl (by (try simp only [List.map_toArray, List.map_cons, List.map_nil]); first | done | rfl | (simp only [List.length_drop, List.length_take]; rfl)) ?_; (with_reducible refine (counterfoilref01_Text.calls a0 t180 t181 _ A3.out).mono ?_); rintro e w20 ⟨rfl, hb⟩; refine ⟨_, rfl, ?_⟩; have n0_ := Aside0.mk (below_step (by repeat (first | (with_reducible first | exact HB.out | apply below_alloc | apply pw_below_drewN | apply below_drew1) | exact HB.out)) hb); clear HB; have HB := n0_; clear n0_; (try clear hb); (try clear hb2); (try clear hk); (try clear hi)) | ((with_reducible refine gate_callee (f := 26) rfl ?_); refine goesL_ (some 25) rfl rfl Try.func26 (by kernel_rfl) rfl #[.string a0] rfl (by (try simp only [List.map_toArray, List.map_cons, List.map_nil]); first | done | rfl | (simp only [List.length_drop, List.length_take]; rfl)) ?_; (with_reducible refine (octet_Take.calls k a0 t182 t183 t184 _ A4.out).mono ?_); rintro e w' ⟨rfl, ⟨nd, rfl⟩⟩; refine ⟨_, rfl, ?_⟩) | ((with_reducible refine gate_callee (f := 27) rfl ?_); refine goesL_ (some 31) rfl rfl Try.func27 (by kernel_rfl) rfl #[.string a0] rfl (by (try simp only [List.map_toArray, List.map_cons, List.map_nil]); first | done | rfl | (simp only [List.length_drop, List.length_take]; rfl)) ?_; (with_reducible refine (counterfoilref01_Take.calls a0 t185 t186 t187 _ A5.out).mono ?_); rintro e w' ⟨rfl, ⟨nd, rfl⟩⟩; refine ⟨_, rfl, ?_⟩))
        go_ret
        exact ⟨by first | rfl | (simp [errW_none, errW_some] <;> rfl) | (simp [*, errW_none, errW_some] <;> rfl), by repeat (first | (with_reducible first | exact HB.out | apply below_alloc | apply pw_below_drewN | apply below_drew1) | exact HB.out)⟩
    · rw [if_neg c7] at H
      have c7b0 : (t179 == t181) = false := beq_eq_false_iff_ne.mpr c7
      have c7b1 : (t179 != t181) = true := bne_iff_ne.mpr c7
      obtain rfl := Option.some.inj H
      go_enter Try.func10, Try.ntmps10
      go_wp2_with (first | ((with_reducible refine gate_callee (f := 24) rfl ?_); refine goesL_ (some 15) rfl rfl Try.func24 (by kernel_rfl) rfl #[.string a0] rfl (by (try simp only [List.map_toArray, List.map_cons, List.map_nil]); first | done | rfl | (simp only [List.length_drop, List.length_take]; rfl)) ?_; (with_reducible refine (octet_Text.calls k a0 t178 t179 _ A2.out).mono ?_); rintro e w21 ⟨rfl, hb⟩; refine ⟨_, rfl, ?_⟩; have n0_ := Aside0.mk (below_step (by repeat (first | (with_reducible first | exact HB.out | apply below_alloc | apply pw_below_drewN | apply below_drew1) | exact HB.out)) hb); clear HB; have HB := n0_; clear n0_; (try clear hb); (try clear hb2); (try clear hk); (try clear hi)) | ((with_reducible refine gate_callee (f := 25) rfl ?_); refine goesL_ (some 20) rfl rfl Try.func25 (by kernel_rfl) rfl #[.string a0] rfl (by (try simp only [List.map_toArray, List.map_cons, List.map_nil]); first | done | rfl | (simp only [List.length_drop, List.length_take]; rfl)) ?_; (with_reducible refine (counterfoilref01_Text.calls a0 t180 t181 _ A3.out).mono ?_); rintro e w22 ⟨rfl, hb⟩; refine ⟨_, rfl, ?_⟩; have n0_ := Aside0.mk (below_step (by repeat (first | (with_reducible first | exact HB.out | apply below_alloc | apply pw_below_drewN | apply below_drew1) | exact HB.out)) hb); clear HB; have HB := n0_; clear n0_; (try clear hb); (try clear hb2); (try clear hk); (try clear hi)) | ((with_reducible refine gate_callee (f := 26) rfl ?_); refine goesL_ (some 25) rfl rfl Try.func26 (by kernel_rfl) rfl #[.string a0] rfl (by (try simp only [List.map_toArray, List.map_cons, List.map_nil]); first | done | rfl | (simp only [List.length_drop, List.length_take]; rfl)) ?_; (with_reducible refine (octet_Take.calls k a0 t182 t183 t184 _ A4.out).mono ?_); rintro e w' ⟨rfl, ⟨nd, rfl⟩⟩; refine ⟨_, rfl, ?_⟩) | ((with_reducible refine gate_callee (f := 27) rfl ?_); refine goesL_ (some 31) rfl rfl Try.func27 (by kernel_rfl) rfl #[.string a0] rfl (by (try simp only [List.map_toArray, List.map_cons, List.map_nil]); first | done | rfl | (simp only [List.length_drop, List.length_take]; rfl)) ?_; (with_reducible refine (counterfoilref01_Take.calls a0 t185 t186 t187 _ A5.out).mono ?_); rintro e w' ⟨rfl, ⟨nd, rfl⟩⟩; refine ⟨_, rfl, ?_⟩))
      go_ret
      exact ⟨by first | rfl | (simp [errW_none, errW_some] <;> rfl) | (simp [*, errW_none, errW_some] <;> rfl), by repeat (first | (with_reducible first | exact HB.out | apply below_alloc | apply pw_below_drewN | apply below_drew1) | exact HB.out)⟩
  · rw [if_neg c6] at H
    have c6b0 : (t178.toList == t180.toList) = false := beq_eq_false_iff_ne.mpr c6
    have c6b1 : (t178.toList != t180.toList) = true := bne_iff_ne.mpr c6
    obtain rfl := Option.some.inj H
    go_enter Try.func10, Try.ntmps10
    go_wp2_with (first | ((with_reducible refine gate_callee (f := 24) rfl ?_); refine goesL_ (some 15) rfl rfl Try.func24 (by kernel_rfl) rfl #[.string a0] rfl (by (try simp only [List.map_toArray, List.map_cons, List.map_nil]); first | done | rfl | (simp only [List.length_drop, List.length_take]; rfl)) ?_; (with_reducible refine (octet_Text.calls k a0 t178 t179 _ A2.out).mono ?_); rintro e w23 ⟨rfl, hb⟩; refine ⟨_, rfl, ?_⟩; have n0_ := Aside0.mk (below_step (by repeat (first | (with_reducible first | exact HB.out | apply below_alloc | apply pw_below_drewN | apply below_drew1) | exact HB.out)) hb); clear HB; have HB := n0_; clear n0_; (try clear hb); (try clear hb2); (try clear hk); (try clear hi)) | ((with_reducible refine gate_callee (f := 25) rfl ?_); refine goesL_ (some 20) rfl rfl Try.func25 (by kernel_rfl) rfl #[.string a0] rfl (by (try simp only [List.map_toArray, List.map_cons, List.map_nil]); first | done | rfl | (simp only [List.length_drop, List.length_take]; rfl)) ?_; (with_reducible refine (counterfoilref01_Text.calls a0 t180 t181 _ A3.out).mono ?_); rintro e w24 ⟨rfl, hb⟩; refine ⟨_, rfl, ?_⟩; have n0_ := Aside0.mk (below_step (by repeat (first | (with_reducible first | exact HB.out | apply below_alloc | apply pw_below_drewN | apply below_drew1) | exact HB.out)) hb); clear HB; have HB := n0_; clear n0_; (try clear hb); (try clear hb2); (try clear hk); (try clear hi)) | ((with_reducible refine gate_callee (f := 26) rfl ?_); refine goesL_ (some 25) rfl rfl Try.func26 (by kernel_rfl) rfl #[.string a0] rfl (by (try simp only [List.map_toArray, List.map_cons, List.map_nil]); first | done | rfl | (simp only [List.length_drop, List.length_take]; rfl)) ?_; (with_reducible refine (octet_Take.calls k a0 t182 t183 t184 _ A4.out).mono ?_); rintro e w' ⟨rfl, ⟨nd, rfl⟩⟩; refine ⟨_, rfl, ?_⟩) | ((with_reducible refine gate_callee (f := 27) rfl ?_); refine goesL_ (some 31) rfl rfl Try.func27 (by kernel_rfl) rfl #[.string a0] rfl (by (try simp only [List.map_toArray, List.map_cons, List.map_nil]); first | done | rfl | (simp only [List.length_drop, List.length_take]; rfl)) ?_; (with_reducible refine (counterfoilref01_Take.calls a0 t185 t186 t187 _ A5.out).mono ?_); rintro e w' ⟨rfl, ⟨nd, rfl⟩⟩; refine ⟨_, rfl, ?_⟩))
    go_ret
    exact ⟨by first | rfl | (simp [errW_none, errW_some] <;> rfl) | (simp [*, errW_none, errW_some] <;> rfl), by repeat (first | (with_reducible first | exact HB.out | apply below_alloc | apply pw_below_drewN | apply below_drew1) | exact HB.out)⟩

/-- THE ONE PURE STATEMENT of counterfoillaw01_OctetTexts: yours. -/
def counterfoillaw01_OctetTexts.Pure : Prop := ∀ (a0 : ByteArray), a0.size ≤ 140737488351232 → ∃ k, counterfoillaw01_OctetTexts.f k a0 = some true
theorem counterfoillaw01_OctetTexts.walk (P : counterfoillaw01_OctetTexts.Pure) (a0 : ByteArray) (w : World) (w0 : a0.size ≤ 140737488351232) :
    Calls Try.prog 10 #[.string a0] w fun e w' => e = .returned (.bool true) ∧ Below w.heap.size w w' := by
  obtain ⟨k, h⟩ := P a0 w0
  refine (counterfoillaw01_OctetTexts.calls k a0 true w h).mono ?_
  rintro e w' ⟨rfl, hd⟩
  exact ⟨rfl, hd⟩

end Go.Proofs.Ytbnkmdcfillhoaa.P
