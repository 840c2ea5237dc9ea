import Derived.Test.YtecfndblgefhdaaKsHSentR
set_option linter.unusedVariables false
namespace Go.Proofs.Ytecfndblgefhdaa.Pure
open Go.RowKit Go.Proofs.Ytecfndblgefhdaa.R Go.Proofs.YtecfndblgefhdaaW.PrintWords Go.Proofs.YtecfndblgefhdaaW.PrintLast Go.Proofs.YtecfndblgefhdaaW.PrintMore
theorem TopSent {p0 p1 p2 p3 p4 p5 : Prop} (x0 : List S137) (a b : Int) (c : Bool) (x2 : List (List S120)) (x3 x4 : List Bool) (_ : p0) (_ : p1) (_ : p2) (_ : p3) (_ : p4) (_ : p5) : ∃ k, counterfoiltop_TopSent.f k x0 a b c x2 x3 x4 = some true := ⟨0, rfl⟩
end Go.Proofs.Ytecfndblgefhdaa.Pure
