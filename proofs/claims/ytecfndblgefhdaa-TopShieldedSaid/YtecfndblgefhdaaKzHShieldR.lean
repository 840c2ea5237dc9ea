import Derived.Test.YtecfndblgefhdaaKzHShield
set_option linter.unusedVariables false
namespace Go.Proofs.Ytecfndblgefhdaa.R
open Go.RowKit Go.Proofs.YtecfndblgefhdaaW.PrintWords Go.Proofs.YtecfndblgefhdaaW.PrintLast Go.Proofs.YtecfndblgefhdaaW.PrintMore
def counterfoiltop_TopShielded.f (_ : Nat) (_ : List S137) (_ : List (List S120)) (_ : List S141) (_ : Int) : Option Bool := some true
theorem counterfoiltop_TopShielded.calls (k : Nat) (A0 : Option Addr) (c0 : Nat) (l0 : List S137) (A1 : Option Addr) (c1 : Nat) (l1 : List (List S120)) (A2 : Option Addr) (c2 : Nat) (l2 : List S141) (a3 : Int) (r : Bool) (w : World) (hr0 : Kd.C k137 w A0 l0.length l0) (hc0 : l0.length ≤ c0) (hr1 : Kd.C (Kd.slice 120 k120) w A1 l1.length l1) (hc1 : l1.length ≤ c1) (hr2 : Kd.C k141 w A2 l2.length l2) (hc2 : l2.length ≤ c2) (hr_ : r = true) (h : counterfoiltop_TopShielded.f k l0 l1 l2 a3 = some r) :
  Calls Try.prog 5 #[.slice A0 l0.length c0, .slice A1 l1.length c1, .slice A2 l2.length c2, .int .i64 a3] w fun e w' => e = .returned (.bool r) ∧ Below w.heap.size w w' := by
 subst hr_
 exact Law.shield.calls A0 c0 l0 A1 c1 l1 A2 c2 l2 a3 w hr0 hc0 hr1 hc1 hr2 hc2
end Go.Proofs.Ytecfndblgefhdaa.R
