/- FrameTurned, walked by hand: a frame of which one byte is turned. -/
import Derived.Test.YtkkkocemdjekcaaConv
import Derived.Test.YtkkkocemdjekcaaPx1
import Derived.Test.YtkkkocemdjekcaaPx2
set_option linter.unusedVariables false
set_option linter.unusedSimpArgs false
namespace Go.Proofs.Ytkkkocemdjekcaa.P
open Go.RowKit Go.Proofs.Ytkkkocemdjekcaa.Conv Go.Proofs.YtkkkocemdjekcaaW.PrintWords Go.Proofs.YtkkkocemdjekcaaW.PrintLast Go.Proofs.YtkkkocemdjekcaaW.PrintMore

def counterfoillaw03_FrameTurned.f (k : Nat) (a0 : Int) (a1 : ByteArray) (a2 : Int) (a3 : Int) : Option Bool :=
  (frame_Seal.f k a0 a1).bind fun b => if b.2 = 0 then (if a2 < 0 then counterfoillaw03_awake.f k else if a2 ≥ (b.1.size : Int) then counterfoillaw03_awake.f k else if a3 = 0 then counterfoillaw03_awake.f k else
    if b.1.size ≤ 140737488351232 then (frame_Open.f k (strOfNums ((bytesOf b.1).set a2.toNat (Go.bits .xor .u8 (bt b.1 a2) a3)))).bind fun o => if o.1 = 0 then (if o.2.1.toList = [] then (if o.2.2 = 0 then some false else counterfoillaw03_awake.f k) else some false) else some false else none)
    else counterfoillaw03_awake.f k
/-- THE ONE PURE STATEMENT of counterfoillaw03_FrameTurned. -/
def counterfoillaw03_FrameTurned.Pure : Prop := ∀ (a0 : Int) (a1 : ByteArray) (a2 : Int) (a3 : Int), (Lit.int .i64 a0).wf = true → a1.size ≤ 140737488351232 → (Lit.int .i64 a2).wf = true → (Lit.int .u8 a3).wf = true → ∃ k, counterfoillaw03_FrameTurned.f k a0 a1 a2 a3 = some true
set_option maxHeartbeats 1000000 in
set_option maxRecDepth 100000 in
theorem counterfoillaw03_FrameTurned.walk (P : counterfoillaw03_FrameTurned.Pure) (a0 : Int) (a1 : ByteArray) (a2 : Int) (a3 : Int) (w : World) (w0 : (Lit.int .i64 a0).wf = true) (w1 : a1.size ≤ 140737488351232) (w2 : (Lit.int .i64 a2).wf = true) (w3 : (Lit.int .u8 a3).wf = true) :
    Calls Try.prog 6 #[.int .i64 a0, .string a1, .int .i64 a2, .int .u8 a3] w fun e w' => e = .returned (.bool true) ∧ Below w.heap.size w w' := by
  obtain ⟨k, h⟩ := P a0 a1 a2 a3 w0 w1 w2 w3
  have HB := Aside0.mk (Below.refl w.heap.size w)
  unfold counterfoillaw03_FrameTurned.f at h
  obtain ⟨⟨s, e⟩, hs, h⟩ := Option.bind_eq_some_iff.1 h
  simp only at h
  have HS := Aside0.mk hs
  clear hs P w0 w1 w2 w3
  by_cases he : e = 0
  · rw [if_pos he] at h
    subst he
    by_cases h1 : a2 < 0
    · rw [if_pos h1] at h
      have HA := Aside0.mk h
      have d1 : decide (a2 < 0) = true := decide_eq_true h1
      clear h h1
      go_enter Try.func6, Try.ntmps6
      go_wp2_with fail
      (with_reducible refine (frame_Seal.calls k a0 a1 s 0 _ HS.out).mono ?_)
      rintro e w4 ⟨rfl, hb⟩
      have HB4 := Aside0.mk (below_step HB.out hb)
      clear hb
      go_wp2_with fail
      (with_reducible refine (counterfoillaw03_awake.calls k true _ HA.out).mono ?_)
      rintro e w5 ⟨rfl, hb⟩
      have HB5 := Aside0.mk (below_step HB4.out hb)
      clear hb
      go_wp2
      go_ret
      exact ⟨rfl, HB5.out⟩
    rw [if_neg h1] at h
    have d1 : decide (a2 < 0) = false := decide_eq_false h1
    obtain ⟨i, rfl⟩ := Int.eq_ofNat_of_zero_le (show 0 ≤ a2 by omega)
    clear h1
    by_cases h2 : (i : Int) ≥ (s.size : Int)
    · rw [if_pos h2] at h
      have HA := Aside0.mk h
      have d2 : decide (s.size ≤ i) = true := decide_eq_true (by omega)
      clear h h2
      go_enter Try.func6, Try.ntmps6
      go_wp2_with fail
      (with_reducible refine (frame_Seal.calls k a0 a1 s 0 _ HS.out).mono ?_)
      rintro e w4 ⟨rfl, hb⟩
      have HB4 := Aside0.mk (below_step HB.out hb)
      clear hb
      go_wp2_with fail
      (with_reducible refine (counterfoillaw03_awake.calls k true _ HA.out).mono ?_)
      rintro e w5 ⟨rfl, hb⟩
      have HB5 := Aside0.mk (below_step HB4.out hb)
      clear hb
      go_wp2
      go_ret
      exact ⟨rfl, HB5.out⟩
    rw [if_neg h2] at h
    have d2 : decide (s.size ≤ i) = false := decide_eq_false (by omega)
    by_cases h3 : a3 = 0
    · rw [if_pos h3] at h
      have HA := Aside0.mk h
      have d3 : (a3 == 0) = true := beq_iff_eq.2 h3
      clear h h2 h3
      go_enter Try.func6, Try.ntmps6
      go_wp2_with fail
      (with_reducible refine (frame_Seal.calls k a0 a1 s 0 _ HS.out).mono ?_)
      rintro e w4 ⟨rfl, hb⟩
      have HB4 := Aside0.mk (below_step HB.out hb)
      clear hb
      go_wp2_with fail
      (with_reducible refine (counterfoillaw03_awake.calls k true _ HA.out).mono ?_)
      rintro e w5 ⟨rfl, hb⟩
      have HB5 := Aside0.mk (below_step HB4.out hb)
      clear hb
      go_wp2
      go_ret
      exact ⟨rfl, HB5.out⟩
    rw [if_neg h3] at h
    have d3 : (a3 == 0) = false := beq_eq_false_iff_ne.2 h3
    by_cases hz : s.size ≤ 140737488351232
    · rw [if_pos hz] at h
      obtain ⟨⟨x, c, g⟩, hx, h⟩ := Option.bind_eq_some_iff.1 h
      simp only at h
      by_cases hx0 : x = 0
      · rw [if_pos hx0] at h
        subst hx0
        by_cases hc0 : c.toList = []
        · rw [if_pos hc0] at h
          by_cases hg0 : g = 0
          · rw [if_pos hg0] at h; cases h
          rw [if_neg hg0] at h
          have HA := Aside0.mk h
          rw [Int.toNat_natCast] at hx
          have HX := Aside0.mk hx
          have HZ := Aside0.mk hz
          have d4 : (g != 0) = true := bne_iff_ne.2 hg0
          have d5 : (c.toList == []) = true := beq_iff_eq.2 hc0
          have d6 : c.toList.isEmpty = true := by rw [hc0]; rfl
          have hi : i < s.size := by omega
          have hl : 0 ≤ (i : Int) := by omega
          clear h hx hg0 hc0 h2 h3
          go_enter Try.func6, Try.ntmps6
          go_wp2_with fail
          (with_reducible refine (frame_Seal.calls k a0 a1 s 0 _ HS.out).mono ?_)
          rintro e w4 ⟨rfl, hb⟩
          have HB4 := Aside0.mk (below_step HB.out hb)
          clear hb
          have hconv := Lib.run_convert_string_bytes w4 9 34 5 s Try.underlying9 Try.underlying34 Try.underlying5
          have HC := CRow.of_conv (e := 5) w4 w.heap.size s HB4.out.size (by have := HZ.out; simp only [maxLen]; omega)
          have hcell := HC.cells.2.1 i _ (bytes_get s i hi)
          have hfz := HC.cells.2.2 i (by rw [bytesOf_length]; exact hi)
          have hback := (HC.set i (Go.bits .xor .u8 (bt s (i : Int)) a3)).text (P := Try.prog) Try.underlying34 Try.underlying5 Try.underlying9
          have HB6 := Aside0.mk ((bytes_below HB4.out HB4.out.size 5 s).setCell (p := ⟨w4.heap.size, i, none⟩) HB4.out.size (.int .u8 (Go.bits .xor .u8 (bt s (i : Int)) a3)))
          have d7 : (i : Int) < (s.size : Int) := by omega
          clear HC hz
          generalize Lib.bytesWorld w4 5 s = W1 at *
          generalize grownCap w4 s.size 0 5 = cp at *
          go_wp2_with fail
          (with_reducible refine (frame_Open.calls k _ 0 c g _ HX.out).mono ?_)
          rintro e w5 ⟨rfl, hb⟩
          have HB7 := Aside0.mk (below_step HB6.out hb)
          clear hb
          go_wp2_with fail
          (with_reducible refine (counterfoillaw03_awake.calls k true _ HA.out).mono ?_)
          rintro e w6 ⟨rfl, hb⟩
          have HB8 := Aside0.mk (below_step HB7.out hb)
          clear hb
          go_wp2
          go_ret
          exact ⟨rfl, HB8.out⟩
        · rw [if_neg hc0] at h; cases h
      · rw [if_neg hx0] at h; cases h
    · rw [if_neg hz] at h; cases h
  · rw [if_neg he] at h
    have HA := Aside0.mk h
    have d1 : (e != 0) = true := bne_iff_ne.2 he
    clear h he
    go_enter Try.func6, Try.ntmps6
    go_wp2_with fail
    (with_reducible refine (frame_Seal.calls k a0 a1 s e _ HS.out).mono ?_)
    rintro e w4 ⟨rfl, hb⟩
    have HB4 := Aside0.mk (below_step HB.out hb)
    clear hb
    go_wp2_with fail
    (with_reducible refine (counterfoillaw03_awake.calls k true _ HA.out).mono ?_)
    rintro e w5 ⟨rfl, hb⟩
    have HB5 := Aside0.mk (below_step HB4.out hb)
    clear hb
    go_wp2
    go_ret
    exact ⟨rfl, HB5.out⟩
end Go.Proofs.Ytkkkocemdjekcaa.P
