/- append(b, s...) where the whole is longer than the shelf's law allows (up to 150,000,000,000,000 bytes). -/
import Derived.Test.YtgfmdfgibkkfaaaKoWWords
import Derived.Lib.AppendStr
import Derived.Laws.Append
set_option linter.unusedVariables false
namespace Go.Proofs.YtgfmdfgibkkfaaaW.PrintWords
open Go.RowKit

section
variable {P : Program} {ops : Array Oper} {rest : List Oper} {o : Oper} {a : Act} {Q : Exit → Act → World → Prop}
end
end Go.Proofs.YtgfmdfgibkkfaaaW.PrintWords
