import Derived.Test.YtecfndblgefhdaaKsWMore
set_option linter.unusedVariables false
set_option linter.unusedSimpArgs false
namespace Go.Proofs.Ytecfndblgefhdaa.Conv
open Go.RowKit Go.Proofs.YtecfndblgefhdaaW.PrintWords Go.Proofs.YtecfndblgefhdaaW.PrintLast Go.Proofs.YtecfndblgefhdaaW.PrintMore
section
variable {e : TypeId} {W W1 : World} {base : Nat} {v : Value} {l : List Int}
end
section
variable {P : Program} {e : TypeId} {W : World} {base : Nat} {v : Value} {l : List Int}
end
end Go.Proofs.Ytecfndblgefhdaa.Conv
