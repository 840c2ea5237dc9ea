/- SumEnds, walked by hand: the bytes of a text and of its sum, one turned. -/
import Derived.Test.YtpejcejkgbbbbaaPx1
import Derived.Test.YtpejcejkgbbbbaaConv
set_option linter.unusedVariables false
set_option linter.unusedSimpArgs false
namespace Go.Proofs.Ytpejcejkgbbbbaa.P
open Go.RowKit Go.Proofs.Ytpejcejkgbbbbaa.Conv Go.Proofs.YtpejcejkgbbbbaaW.PrintWords Go.Proofs.YtpejcejkgbbbbaaW.PrintLast Go.Proofs.YtpejcejkgbbbbaaW.PrintMore

def ends (a0 : ByteArray) (c : Int) : List Int := bytesOf a0 ++ [c / 16777216 % 256, c / 65536 % 256, c / 256 % 256, c % 256]
theorem ends_length (a0 : ByteArray) (c : Int) : (ends a0 c).length = a0.size + 4 := by simp [ends, bytesOf_length]
def counterfoillaw02_SumEnds.f (a0 : ByteArray) (a1 : Int) (a2 : Int) : Option Bool :=
  (sum_Of.f a0).bind fun c => (sum_Right.f (strOfNums (ends a0 c))).bind fun t => if t = true then
    (if a1 < 0 then counterfoillaw02_awake.f else if a1 ≥ ((a0.size + 4 : Nat) : Int) then counterfoillaw02_awake.f else if a2 = 0 then counterfoillaw02_awake.f else
      (sum_Right.f (strOfNums ((ends a0 c).set a1.toNat (Go.bits .xor .u8 (rd (ends a0 c) a1) a2)))).bind fun u => if u = true then some false else counterfoillaw02_awake.f)
    else some false
theorem info5s : (Try.prog.info? 5).map (fun i => (i.zero, i.size, i.bytes)) = some (some (.int .u8 0), 1, 1) := by kernel_rfl
set_option maxHeartbeats 1000000 in
set_option maxRecDepth 100000 in
theorem counterfoillaw02_SumEnds.calls (a0 : ByteArray) (a1 : Int) (a2 : Int) (r : Bool) (w : World) (hs : a0.size ≤ 140737488351232) (h : counterfoillaw02_SumEnds.f a0 a1 a2 = some r) :
    Calls Try.prog 9 #[.string a0, .int .i64 a1, .int .u8 a2] w fun e w' => e = .returned (.bool r) ∧ Below w.heap.size w w' := by
  have HB := Aside0.mk (Below.refl w.heap.size w)
  unfold counterfoillaw02_SumEnds.f at h
  obtain ⟨c, hc, h⟩ := Option.bind_eq_some_iff.1 h
  obtain ⟨t, ht, h⟩ := Option.bind_eq_some_iff.1 h
  have HC := Aside0.mk hc
  have HT := Aside0.mk ht
  have H := Aside0.mk h
  have HS := Aside0.mk hs
  clear h hc ht hs
  go_enter Try.func9, Try.ntmps9
  go_wp2_with fail
  (with_reducible refine (sum_Of.calls _ c _ HC.out).mono ?_)
  rintro e w1 ⟨rfl, hb⟩
  have HB1 := Aside0.mk (below_step HB.out hb)
  clear hb HB
  have hconv := Lib.run_convert_string_bytes w1 9 29 5 a0 Try.underlying9 Try.underlying29 Try.underlying5
  have HR := Aside0.mk (CRow.of_conv (e := 5) w1 w.heap.size a0 HB1.out.size (by have := HS.out; simp only [maxLen]; omega))
  have HB2 := Aside0.mk (bytes_below HB1.out HB1.out.size 5 a0)
  have hblk : (Value.slice (some ⟨w1.heap.size, 0, none⟩) a0.size (grownCap w1 a0.size 0 5)).ownBlock = some w1.heap.size := rfl
  have hsz := HB1.out.size
  generalize Lib.bytesWorld w1 5 a0 = W1 at *
  generalize grownCap w1 a0.size 0 5 = cp at *
  have hal := Aside0.mk (below_alloc HB2.out (.cells #[.int .u8 (c / 16777216 % 256), .int .u8 (c / 65536 % 256), .int .u8 (c / 256 % 256), .int .u8 (c % 256)] 5))
  go_wp2_with (at_builtin; refine wpList_append_crow rfl (.tmp 12) (.tmp 24) 29 29 rfl Try.underlying29 Try.underlying29 (.inr rfl) info5s rfl (HR.out.alloc _) _ rfl [c / 16777216 % 256, c / 65536 % 256, c / 256 % 256, c % 256] ?hg ?hl ?hb ?_)
  case hg =>
    refine (show Gives Try.prog _ (.slice (some ⟨W1.heap.size, 0, none⟩) [c / 16777216 % 256, c / 65536 % 256, c / 256 % 256, c % 256].length 4) _ from gives_cells W1.heap.size 4 [c / 16777216 % 256, c / 65536 % 256, c / 256 % 256, c % 256] (fun j x hx => ?_))
    have hn := heap_alloc_new W1 (.cells #[.int .u8 (c / 16777216 % 256), .int .u8 (c / 65536 % 256), .int .u8 (c / 256 % 256), .int .u8 (c % 256)] 5)
    rw [cell_plain _ _ _ _ _ _ hn]
    match j, hx with
    | 0, hx | 1, hx | 2, hx | 3, hx => simp at hx; subst hx; rfl
    | j + 4, hx => simp at hx
  case hl => have := HS.out; simp [bytesOf_length]; omega
  case hb => exact hal.out.size
  intro v2 W2 hc2 hg2 _
  have HB3 := Aside0.mk (pw_below_grown hal.out _ hal.out.size hg2 (fun k hk => by injection hk with hk; omega))
  clear hal HR HB2 hg2 hblk hconv
  have hc3 : CRow 5 W2 w.heap.size v2 (ends a0 c) := hc2
  clear hc2
  obtain ⟨g, cap, hv, hbg, hle, hcell, hfz⟩ := hc3.slice
  subst hv
  have HR2 := Aside0.mk hc3
  have hback := hc3.text (P := Try.prog) Try.underlying29 Try.underlying5 Try.underlying9
  rw [ends_length] at hback ⊢
  clear hc3 hcell hfz hle
  go_wp2_with fail
  (with_reducible refine (sum_Right.calls _ t _ HT.out).mono ?_)
  rintro e w3 ⟨rfl, hb⟩
  have HB4 := Aside0.mk (below_step HB3.out hb)
  have HR3 := Aside0.mk (HR2.out.below hb)
  clear hb hback HR2 HB3
  cases t with
  | false =>
    have H2 := H.out
    rw [if_neg (by simp)] at H2
    obtain rfl := Option.some.inj H2
    clear H2 H
    go_wp2
    go_ret
    exact ⟨rfl, HB4.out⟩
  | true =>
    have H2 := H.out
    rw [if_pos rfl] at H2
    clear H
    by_cases h1 : a1 < 0
    · rw [if_pos h1] at H2
      have HA := Aside0.mk H2
      have d1 : decide (a1 < 0) = true := decide_eq_true h1
      clear H2 h1
      go_wp2_with (go_at_call 13; (with_reducible refine (counterfoillaw02_awake.calls r _ HA.out).mono ?_); rintro e w4 ⟨rfl, hb⟩; have HB5 := Aside0.mk (below_step HB4.out hb); clear hb)
      go_ret
      exact ⟨rfl, HB5.out⟩
    rw [if_neg h1] at H2
    have d1 : decide (a1 < 0) = false := decide_eq_false h1
    obtain ⟨i, rfl⟩ := Int.eq_ofNat_of_zero_le (show 0 ≤ a1 by omega)
    clear h1
    by_cases h2 : (i : Int) ≥ ((a0.size + 4 : Nat) : Int)
    · rw [if_pos h2] at H2
      have HA := Aside0.mk H2
      have d2 : decide (a0.size + 4 ≤ i) = true := decide_eq_true (by omega)
      have d3 : decide ((a0.size : Int) + 4 ≤ i) = true := decide_eq_true (by omega)
      clear H2 h2
      go_wp2_with (go_at_call 13; (with_reducible refine (counterfoillaw02_awake.calls r _ HA.out).mono ?_); rintro e w4 ⟨rfl, hb⟩; have HB5 := Aside0.mk (below_step HB4.out hb); clear hb)
      go_ret
      exact ⟨rfl, HB5.out⟩
    rw [if_neg h2] at H2
    have d2 : decide (a0.size + 4 ≤ i) = false := decide_eq_false (by omega)
    have d3 : decide ((a0.size : Int) + 4 ≤ i) = false := decide_eq_false (by omega)
    by_cases h3 : a2 = 0
    · rw [if_pos h3] at H2
      have HA := Aside0.mk H2
      have d4 : (a2 == 0) = true := beq_iff_eq.2 h3
      clear H2 h2 h3
      go_wp2_with (go_at_call 13; (with_reducible refine (counterfoillaw02_awake.calls r _ HA.out).mono ?_); rintro e w4 ⟨rfl, hb⟩; have HB5 := Aside0.mk (below_step HB4.out hb); clear hb)
      go_ret
      exact ⟨rfl, HB5.out⟩
    rw [if_neg h3] at H2
    have d4 : (a2 == 0) = false := beq_eq_false_iff_ne.2 h3
    obtain ⟨u, hu, H2⟩ := Option.bind_eq_some_iff.1 H2
    have hi : i < (ends a0 c).length := by rw [ends_length]; omega
    have hrd : (ends a0 c)[i]? = some (rd (ends a0 c) (i : Int)) := by
      unfold rd
      rw [Int.toNat_natCast, List.getD_eq_getElem?_getD, List.getElem?_eq_getElem hi]
      rfl
    rw [ends_length] at HR3
    have hcell := HR3.out.cells.2.1 i _ hrd
    have hfz := HR3.out.cells.2.2 i hi
    have HR4 := Aside0.mk (HR3.out.set i (Go.bits .xor .u8 (rd (ends a0 c) (i : Int)) a2))
    have hback := HR4.out.text (P := Try.prog) Try.underlying29 Try.underlying5 Try.underlying9
    have HB5 := Aside0.mk (HB4.out.setCell (p := ⟨g, i, none⟩) hbg (.int .u8 (Go.bits .xor .u8 (rd (ends a0 c) (i : Int)) a2)))
    rw [Int.toNat_natCast] at hu
    have HU := Aside0.mk hu
    have HA := Aside0.mk H2
    have d5 : 0 ≤ (i : Int) := by omega
    have d6 : (i : Int) < (a0.size : Int) + 4 := by omega
    have d7 : i < a0.size + 4 := by omega
    clear HR3 HR4 hu H2 h2 h3 hi hrd HB4
    go_wp2_with fail
    (with_reducible refine (sum_Right.calls _ u _ HU.out).mono ?_)
    rintro e w4 ⟨rfl, hb⟩
    have HB6 := Aside0.mk (below_step HB5.out hb)
    clear hb
    cases u with
    | true =>
      have H3 := HA.out
      rw [if_pos rfl] at H3
      obtain rfl := Option.some.inj H3
      clear H3 HA
      go_wp2
      go_ret
      exact ⟨rfl, HB6.out⟩
    | false =>
      have H3 := HA.out
      rw [if_neg (by simp)] at H3
      replace HA := Aside0.mk H3
      clear H3
      go_wp2_with (go_at_call 13; (with_reducible refine (counterfoillaw02_awake.calls r _ HA.out).mono ?_); rintro e w5 ⟨rfl, hb⟩; have HB7 := Aside0.mk (below_step HB6.out hb); clear hb)
      go_ret
      exact ⟨rfl, HB7.out⟩
/-- THE ONE PURE STATEMENT of counterfoillaw02_SumEnds. -/
def counterfoillaw02_SumEnds.Pure : Prop := ∀ (a0 : ByteArray) (a1 : Int) (a2 : Int), a0.size ≤ 140737488351232 → (Lit.int .i64 a1).wf = true → (Lit.int .u8 a2).wf = true → counterfoillaw02_SumEnds.f a0 a1 a2 = some true
theorem counterfoillaw02_SumEnds.walk (P : counterfoillaw02_SumEnds.Pure) (a0 : ByteArray) (a1 : Int) (a2 : Int) (w : World) (w0 : a0.size ≤ 140737488351232) (w1 : (Lit.int .i64 a1).wf = true) (w2 : (Lit.int .u8 a2).wf = true) :
    Calls Try.prog 9 #[.string a0, .int .i64 a1, .int .u8 a2] w fun e w' => e = .returned (.bool true) ∧ Below w.heap.size w w' :=
  counterfoillaw02_SumEnds.calls a0 a1 a2 true w w0 (P a0 a1 a2 w0 w1 w2)
end Go.Proofs.Ytpejcejkgbbbbaa.P
