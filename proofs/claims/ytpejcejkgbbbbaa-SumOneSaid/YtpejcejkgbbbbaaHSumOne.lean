/- SumOne, walked by hand: the bytes of a text, one turned. -/
import Derived.Test.YtpejcejkgbbbbaaPx1
import Derived.Test.YtpejcejkgbbbbaaConv
set_option linter.unusedVariables false
set_option linter.unusedSimpArgs false
namespace Go.Proofs.Ytpejcejkgbbbbaa.P
open Go.RowKit Go.Proofs.Ytpejcejkgbbbbaa.Conv Go.Proofs.YtpejcejkgbbbbaaW.PrintWords Go.Proofs.YtpejcejkgbbbbaaW.PrintLast Go.Proofs.YtpejcejkgbbbbaaW.PrintMore

def counterfoillaw02_SumOne.f (a0 : ByteArray) (a1 : Int) (a2 : Int) : Option Bool :=
  if a1 < 0 then counterfoillaw02_awake.f else if a1 ≥ (a0.size : Int) then counterfoillaw02_awake.f else
    (sum_Of.f (strOfNums ((bytesOf a0).set a1.toNat (Go.bits .xor .u8 (bt a0 a1) a2)))).bind fun x => (sum_Of.f a0).bind fun y => if ((x == y) == (a2 == 0)) = true then counterfoillaw02_awake.f else some false
set_option maxHeartbeats 1000000 in
set_option maxRecDepth 100000 in
theorem counterfoillaw02_SumOne.calls (a0 : ByteArray) (a1 : Int) (a2 : Int) (r : Bool) (w : World) (hs : a0.size ≤ 140737488351232) (h : counterfoillaw02_SumOne.f a0 a1 a2 = some r) :
    Calls Try.prog 6 #[.string a0, .int .i64 a1, .int .u8 a2] w fun e w' => e = .returned (.bool r) ∧ Below w.heap.size w w' := by
  have HB := Aside0.mk (Below.refl w.heap.size w)
  unfold counterfoillaw02_SumOne.f at h
  by_cases h1 : a1 < 0
  · rw [if_pos h1] at h
    have H := Aside0.mk h
    have d1 : decide (a1 < 0) = true := decide_eq_true h1
    clear h h1
    go_enter Try.func6, Try.ntmps6
    go_wp2_with (go_at_call 13; (with_reducible refine (counterfoillaw02_awake.calls r _ H.out).mono ?_); rintro e w1 ⟨rfl, hb⟩; have HB1 := Aside0.mk hb; clear hb)
    go_ret
    exact ⟨rfl, HB1.out⟩
  rw [if_neg h1] at h
  by_cases h2 : a1 ≥ (a0.size : Int)
  · rw [if_pos h2] at h
    have H := Aside0.mk h
    have d1 : decide (a1 < 0) = false := decide_eq_false h1
    have d2 : decide ((a0.size : Int) ≤ a1) = true := decide_eq_true h2
    clear h h1 h2
    go_enter Try.func6, Try.ntmps6
    go_wp2_with (go_at_call 13; (with_reducible refine (counterfoillaw02_awake.calls r _ H.out).mono ?_); rintro e w1 ⟨rfl, hb⟩; have HB1 := Aside0.mk hb; clear hb)
    go_ret
    exact ⟨rfl, HB1.out⟩
  rw [if_neg h2] at h
  obtain ⟨x, hx, h⟩ := Option.bind_eq_some_iff.1 h
  obtain ⟨y, hy, h⟩ := Option.bind_eq_some_iff.1 h
  have H := Aside0.mk h
  have HX := Aside0.mk hx
  have HY := Aside0.mk hy
  have d1 : decide (a1 < 0) = false := decide_eq_false h1
  have d2 : decide ((a0.size : Int) ≤ a1) = false := decide_eq_false h2
  obtain ⟨i, rfl⟩ := Int.eq_ofNat_of_zero_le (show 0 ≤ a1 by omega)
  have hi : i < a0.size := by omega
  rw [Int.toNat_natCast] at HX
  clear h hx hy h1 h2
  have hconv := Lib.run_convert_string_bytes w 9 29 5 a0 Try.underlying9 Try.underlying29 Try.underlying5
  have HC := Aside0.mk (CRow.of_conv (e := 5) w w.heap.size a0 (Nat.le_refl _) (by simp only [maxLen]; omega))
  have HB1 := Aside0.mk (bytes_below HB.out (Nat.le_refl _) 5 a0)
  have HS := Aside0.mk (HC.out.set i (Go.bits .xor .u8 (bt a0 (i : Int)) a2))
  have hcell := HC.out.cells.2.1 i _ (bytes_get a0 i hi)
  have hfz := HC.out.cells.2.2 i (by rw [bytesOf_length]; exact hi)
  have hback := HS.out.text (P := Try.prog) Try.underlying29 Try.underlying5 Try.underlying9
  have HB2 := Aside0.mk (HB1.out.setCell (p := ⟨w.heap.size, i, none⟩) (Nat.le_refl _) (.int .u8 (Go.bits .xor .u8 (bt a0 (i : Int)) a2)))
  have d3 : decide (a0.size ≤ i) = false := decide_eq_false (by omega)
  have d4 : 0 ≤ (i : Int) := by omega
  have d5 : (i : Int) < (a0.size : Int) := by omega
  clear HC HS HB1
  generalize Lib.bytesWorld w 5 a0 = W1 at *
  by_cases hc : ((x == y) == (a2 == 0)) = true
  · have H2 := H.out
    rw [if_pos hc] at H2
    have HA := Aside0.mk H2
    clear H2 H
    go_enter Try.func6, Try.ntmps6
    go_wp2_with fail
    (with_reducible refine (sum_Of.calls _ x _ HX.out).mono ?_)
    rintro e w2 ⟨rfl, hb⟩
    have HB3 := Aside0.mk (below_step HB2.out hb)
    clear hb
    go_wp2_with fail
    (with_reducible refine (sum_Of.calls _ y _ HY.out).mono ?_)
    rintro e w3 ⟨rfl, hb⟩
    have HB4 := Aside0.mk (below_step HB3.out hb)
    clear hb
    go_wp2_with fail
    (with_reducible refine (counterfoillaw02_awake.calls r _ HA.out).mono ?_)
    rintro e w4 ⟨rfl, hb⟩
    have HB5 := Aside0.mk (below_step HB4.out hb)
    clear hb
    go_wp2
    go_ret
    exact ⟨rfl, HB5.out⟩
  · have H2 := H.out
    rw [if_neg hc] at H2
    obtain rfl := Option.some.inj H2
    replace hc := Bool.eq_false_iff.mpr hc
    clear H2 H
    go_enter Try.func6, Try.ntmps6
    go_wp2_with fail
    (with_reducible refine (sum_Of.calls _ x _ HX.out).mono ?_)
    rintro e w2 ⟨rfl, hb⟩
    have HB3 := Aside0.mk (below_step HB2.out hb)
    clear hb
    go_wp2_with fail
    (with_reducible refine (sum_Of.calls _ y _ HY.out).mono ?_)
    rintro e w3 ⟨rfl, hb⟩
    have HB4 := Aside0.mk (below_step HB3.out hb)
    clear hb
    go_wp2_with fail
    go_ret
    exact ⟨rfl, HB4.out⟩
/-- THE ONE PURE STATEMENT of counterfoillaw02_SumOne. -/
def counterfoillaw02_SumOne.Pure : Prop := ∀ (a0 : ByteArray) (a1 : Int) (a2 : Int), a0.size ≤ 140737488351232 → (Lit.int .i64 a1).wf = true → (Lit.int .u8 a2).wf = true → counterfoillaw02_SumOne.f a0 a1 a2 = some true
theorem counterfoillaw02_SumOne.walk (P : counterfoillaw02_SumOne.Pure) (a0 : ByteArray) (a1 : Int) (a2 : Int) (w : World) (w0 : a0.size ≤ 140737488351232) (w1 : (Lit.int .i64 a1).wf = true) (w2 : (Lit.int .u8 a2).wf = true) :
    Calls Try.prog 6 #[.string a0, .int .i64 a1, .int .u8 a2] w fun e w' => e = .returned (.bool true) ∧ Below w.heap.size w w' :=
  counterfoillaw02_SumOne.calls a0 a1 a2 true w w0 (P a0 a1 a2 w0 w1 w2)
end Go.Proofs.Ytpejcejkgbbbbaa.P
