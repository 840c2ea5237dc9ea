import Derived.Test.YtecfndblgefhdaaKsHSent
set_option linter.unusedVariables false
namespace Go.Proofs.Ytecfndblgefhdaa.R
open Go.RowKit Go.Proofs.YtecfndblgefhdaaW.PrintWords Go.Proofs.YtecfndblgefhdaaW.PrintLast Go.Proofs.YtecfndblgefhdaaW.PrintMore
def counterfoiltop_TopSent.f (_ : Nat) (_ : List S137) (_ _ : Int) (_ : Bool) (_ : List (List S120)) (_ _ : List Bool) : Option Bool := some true
theorem counterfoiltop_TopSent.calls (k : Nat) (A0 : Option Addr) (c0 : Nat) (l0 : List S137) (a b : Int) (c : Bool) (A2 : Option Addr) (c2 : Nat) (l2 : List (List S120)) (A3 : Option Addr) (c3 : Nat) (l3 : List Bool) (A4 : Option Addr) (c4 : Nat) (l4 : List Bool) (r : Bool) (w : World) (hr0 : Kd.C k137 w A0 l0.length l0) (hc0 : l0.length ≤ c0) (hr2 : Kd.C (Kd.slice 120 k120) w A2 l2.length l2) (hc2 : l2.length ≤ c2) (hr3 : Kd.C Kd.bool w A3 l3.length l3) (hc3 : l3.length ≤ c3) (hr4 : Kd.C Kd.bool w A4 l4.length l4) (hc4 : l4.length ≤ c4) (hr_ : r = true) (h : counterfoiltop_TopSent.f k l0 a b c l2 l3 l4 = some r) :
  Calls Try.prog 4 #[.slice A0 l0.length c0, .agg #[.int .i64 a, .int .i64 b, .bool c], .slice A2 l2.length c2, .slice A3 l3.length c3, .slice A4 l4.length c4] w fun e w' => e = .returned (.bool r) ∧ Below w.heap.size w w' := by
 subst hr_
 exact Law.sent.calls A0 c0 l0 a b c A2 c2 l2 A3 c3 l3 A4 c4 l4 w hr0 hc0 hr2 hc2 hr3 hc3 hr4 hc4
end Go.Proofs.Ytecfndblgefhdaa.R
