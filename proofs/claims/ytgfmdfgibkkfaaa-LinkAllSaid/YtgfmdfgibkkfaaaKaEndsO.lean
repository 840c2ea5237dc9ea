import Derived.Test.YtgfmdfgibkkfaaaKaPx0
import Derived.Test.YtgfmdfgibkkfaaaKaPx2
import Derived.Test.YtgfmdfgibkkfaaaKaPx5
import Derived.Test.YtgfmdfgibkkfaaaKaEndsC
import Derived.Test.YtgfmdfgibkkfaaaKaEndsT
import Derived.Test.YtgfmdfgibkkfaaaKaEndsN
import Derived.Test.YtgfmdfgibkkfaaaKaEndsU
import Derived.Test.YtgfmdfgibkkfaaaKaEndsL
set_option linter.unusedVariables false
set_option linter.unusedSimpArgs false
namespace Go.Proofs.Ytgfmdfgibkkfaaa.P
open Go.RowKit Go.Proofs.YtgfmdfgibkkfaaaW.PrintWords Go.Proofs.YtgfmdfgibkkfaaaW.PrintLast Go.Proofs.YtgfmdfgibkkfaaaW.PrintMore
def LS.place (L : LS) (a : S55) : Int := wrap64 ((IntKind.u64.wrap a.f1).tmod (L.net.length : Int))
def LS.gone (L : LS) (i : Nat) : LS := { L with net := L.net.take i ++ L.net.drop (i + 1) }
def LS.deal (k : Nat) (L : LS) (a : S55) (i : Nat) : Option LS :=
  if ¬ ((L.place a) = (i : Int) ∧ i < L.net.length ∧ L.net.length ≤ 1000) then none
  else if actK a = 9 then some (L.gone i)
  else if actK a = 10 then some (L.send (rd_T65 L.net i))
  else if actK a = 11 then (if 0 < (rd_T65 L.net i).f1.size ∧ (rd_T65 L.net i).f1.size ≤ 100000 ∧ a.f2.size ≤ 100000 then some (L.turn i a.f2.size) else none)
  else if (rd_T65 L.net i).f0 = 0 then (link_Take.f k L.x0.f0 L.x0.f1 L.x0.f2 L.x0.f3 L.x0.f4 (rd_T65 L.net i).f1).bind fun R => if L.c0.length ≤ 1000 then some ((L.gone i).comes0 R) else none
  else if (rd_T65 L.net i).f0 = 1 then (link_Take.f k L.x1.f0 L.x1.f1 L.x1.f2 L.x1.f3 L.x1.f4 (rd_T65 L.net i).f1).bind fun R => if L.c1.length ≤ 1000 then some ((L.gone i).comes1 R) else none
  else none
def LS.act (k : Nat) (L : LS) (a : S55) : Option LS :=
  if actK a = 0 ∨ actK a = 1 then (link_Put.f k L.x0.f0 L.x0.f1 L.x0.f2 L.x0.f3 L.x0.f4 a.f2).bind fun y => if L.p0.length ≤ 1000 then some (L.puts0 a.f2 y) else none
  else if actK a = 2 then (link_Put.f k L.x1.f0 L.x1.f1 L.x1.f2 L.x1.f3 L.x1.f4 a.f2).bind fun y => if L.p1.length ≤ 1000 then some (L.puts1 a.f2 y) else none
  else if actK a = 3 ∨ actK a = 4 then
    (if (IntKind.u64.wrap a.f1).tmod 2 = 0 then (link_Tick.f k L.x0.f0 L.x0.f1 L.x0.f2 L.x0.f3 L.x0.f4).bind fun ss => some (L.sendAll 1 ss)
     else (link_Tick.f k L.x1.f0 L.x1.f1 L.x1.f2 L.x1.f3 L.x1.f4).bind fun ss => some (L.sendAll 0 ss))
  else if L.net = [] then some L
  else L.deal k a (L.place a).toNat
theorem actK_range (a : S55) : 0 ≤ actK a ∧ actK a ≤ 11 := by
  unfold actK
  have h0 : 0 ≤ IntKind.u64.wrap a.f0 := by rw [IntKind.wrap_u64]; omega
  rw [Int.tmod_eq_emod_of_nonneg h0]
  unfold wrap64
  omega
theorem who_range (n : Int) : (IntKind.u64.wrap n).tmod 2 = 0 ∨ (IntKind.u64.wrap n).tmod 2 = 1 := by
  have h0 : 0 ≤ IntKind.u64.wrap n := by rw [IntKind.wrap_u64]; omega
  rw [Int.tmod_eq_emod_of_nonneg h0]
  omega
theorem ends_act.calls (k b g : Nat) (L L' : LS) (a : S55) (w : World) (h : Ends b w g L) (hb : b ≤ w.heap.size) (ha : L.act k a = some L') :
    Calls Try.prog 25 #[.pointer (some ⟨g, 0, none⟩), .agg #[.int .i64 a.f0, .int .i64 a.f1, .string a.f2]] w fun e w' => e = .returned (.tuple #[]) ∧ Ends b w' g L' ∧ Below b w w' := by
  have hr := actK_range a
  unfold LS.act at ha
  by_cases h01 : actK a = 0 ∨ actK a = 1
  · rw [if_pos h01] at ha
    obtain ⟨y, hy, ha⟩ := Option.bind_eq_some_iff.1 ha
    by_cases hl : L.p0.length ≤ 1000
    · rw [if_pos hl] at ha
      obtain rfl := Option.some.inj ha
      rcases h01 with h0 | h0
      · exact ends_act_p0.calls k b g L a w h hb h0 y hl hy
      · exact ends_act_p1.calls k b g L a w h hb h0 y hl hy
    · rw [if_neg hl] at ha; cases ha
  rw [if_neg h01] at ha
  by_cases h2 : actK a = 2
  · rw [if_pos h2] at ha
    obtain ⟨y, hy, ha⟩ := Option.bind_eq_some_iff.1 ha
    by_cases hl : L.p1.length ≤ 1000
    · rw [if_pos hl] at ha
      obtain rfl := Option.some.inj ha
      exact ends_act_p2.calls k b g L a w h hb h2 y hl hy
    · rw [if_neg hl] at ha; cases ha
  rw [if_neg h2] at ha
  by_cases h34 : actK a = 3 ∨ actK a = 4
  · rw [if_pos h34] at ha
    rcases who_range a.f1 with hw | hw
    · rw [if_pos hw] at ha
      obtain ⟨ss, hs, ha⟩ := Option.bind_eq_some_iff.1 ha
      obtain rfl := Option.some.inj ha
      rcases h34 with h3 | h3
      · exact ends_act_t30.calls k b g L a w h hb h3 ss hw hs
      · exact ends_act_t40.calls k b g L a w h hb h3 ss hw hs
    · rw [if_neg (by rw [hw]; decide)] at ha
      obtain ⟨ss, hs, ha⟩ := Option.bind_eq_some_iff.1 ha
      obtain rfl := Option.some.inj ha
      rcases h34 with h3 | h3
      · exact ends_act_t31.calls k b g L a w h hb h3 ss hw hs
      · exact ends_act_t41.calls k b g L a w h hb h3 ss hw hs
  rw [if_neg h34] at ha
  by_cases hn : L.net = []
  · rw [if_pos hn] at ha
    obtain rfl := Option.some.inj ha
    exact ends_act_e.calls k b g L a (actK a) w h hb rfl (by omega) hn
  rw [if_neg hn] at ha
  unfold LS.deal at ha
  generalize (L.place a).toNat = i at ha
  by_cases hp : (L.place a) = (i : Int) ∧ i < L.net.length ∧ L.net.length ≤ 1000
  · rw [if_neg (fun hx => hx hp)] at ha
    obtain ⟨hp, hi, hln⟩ := hp
    by_cases h9 : actK a = 9
    · rw [if_pos h9] at ha
      obtain rfl := Option.some.inj ha
      exact ends_act_n9.calls k b g L a w h hb h9 i hi hln hp
    rw [if_neg h9] at ha
    by_cases h10 : actK a = 10
    · rw [if_pos h10] at ha
      obtain rfl := Option.some.inj ha
      exact ends_act_n10.calls k b g L a w h hb h10 i hi hln hp
    rw [if_neg h10] at ha
    by_cases h11 : actK a = 11
    · rw [if_pos h11] at ha
      by_cases hs : 0 < (rd_T65 L.net i).f1.size ∧ (rd_T65 L.net i).f1.size ≤ 100000 ∧ a.f2.size ≤ 100000
      · rw [if_pos hs] at ha
        obtain rfl := Option.some.inj ha
        exact ends_act_n11.calls k b g L a w h hb h11 i hi hln hp hs.1 hs.2.1 hs.2.2
      · rw [if_neg hs] at ha; cases ha
    rw [if_neg h11] at ha
    by_cases ht : (rd_T65 L.net i).f0 = 0
    · rw [if_pos ht] at ha
      obtain ⟨R, hR, ha⟩ := Option.bind_eq_some_iff.1 ha
      by_cases hl : L.c0.length ≤ 1000
      · rw [if_pos hl] at ha
        obtain rfl := Option.some.inj ha
        exact ends_act_c0.calls k b g L a (actK a) w h hb rfl (by omega) i hi hln hp ht R hl hR
      · rw [if_neg hl] at ha; cases ha
    rw [if_neg ht] at ha
    by_cases ht1 : (rd_T65 L.net i).f0 = 1
    · rw [if_pos ht1] at ha
      obtain ⟨R, hR, ha⟩ := Option.bind_eq_some_iff.1 ha
      by_cases hl : L.c1.length ≤ 1000
      · rw [if_pos hl] at ha
        obtain rfl := Option.some.inj ha
        exact ends_act_c1.calls k b g L a (actK a) w h hb rfl (by omega) i hi hln hp ht1 R hl hR
      · rw [if_neg hl] at ha; cases ha
    rw [if_neg ht1] at ha
    cases ha
  · rw [if_pos hp] at ha
    cases ha
end Go.Proofs.Ytgfmdfgibkkfaaa.P
