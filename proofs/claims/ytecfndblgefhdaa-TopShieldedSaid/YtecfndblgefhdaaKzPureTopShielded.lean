import Derived.Test.YtecfndblgefhdaaKzHShieldR
set_option linter.unusedVariables false
namespace Go.Proofs.Ytecfndblgefhdaa.Pure
open Go.RowKit Go.Proofs.Ytecfndblgefhdaa.R Go.Proofs.YtecfndblgefhdaaW.PrintWords Go.Proofs.YtecfndblgefhdaaW.PrintLast Go.Proofs.YtecfndblgefhdaaW.PrintMore
theorem TopShielded {p0 p1 p2 p3 : Prop} (x0 : List S137) (x1 : List (List S120)) (x2 : List S141) (a3 : Int) (_ : p0) (_ : p1) (_ : p2) (_ : p3) : ∃ k, counterfoiltop_TopShielded.f k x0 x1 x2 a3 = some true := ⟨0, rfl⟩
end Go.Proofs.Ytecfndblgefhdaa.Pure
