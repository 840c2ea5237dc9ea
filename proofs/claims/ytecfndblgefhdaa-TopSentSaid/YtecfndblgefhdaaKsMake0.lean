import Derived.Test.YtecfndblgefhdaaKsWWords
import Derived.Laws.Append
set_option linter.unusedVariables false
namespace Go.Proofs.YtecfndblgefhdaaW.PrintWords
open Go.RowKit
namespace Kd
section
variable {P : Program} {ops : Array Oper} {rest : List Oper} {o : Oper} {a : Act} {Q : Exit → Act → World → Prop} {α : Type}
end
end Kd
end Go.Proofs.YtecfndblgefhdaaW.PrintWords
set_option linter.unusedVariables false
namespace Go.Proofs.YtecfndblgefhdaaW.PrintWords
open Go.RowKit
section
variable {P : Program} {ops : Array Oper} {rest : List Oper} {o : Oper} {a : Act} {Q : Exit → Act → World → Prop}
end
end Go.Proofs.YtecfndblgefhdaaW.PrintWords
