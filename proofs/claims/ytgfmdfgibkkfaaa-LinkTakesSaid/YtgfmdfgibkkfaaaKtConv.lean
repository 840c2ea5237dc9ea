import Derived.Test.YtgfmdfgibkkfaaaKtWMore
import Derived.Lib.AppendStr
import Derived.Lib.ConvBytes
import Derived.Laws.BytesArg
import Derived.Laws.IdiomCopy
set_option linter.unusedVariables false
set_option linter.unusedSimpArgs false
namespace Go.Proofs.Ytgfmdfgibkkfaaa.Conv
open Go.RowKit Go.Proofs.YtgfmdfgibkkfaaaW.PrintWords Go.Proofs.YtgfmdfgibkkfaaaW.PrintLast Go.Proofs.YtgfmdfgibkkfaaaW.PrintMore
section
variable {e : TypeId} {W W1 : World} {base : Nat} {v : Value} {l : List Int}
end
section
variable {P : Program} {e : TypeId} {W : World} {base : Nat} {v : Value} {l : List Int}
end
end Go.Proofs.Ytgfmdfgibkkfaaa.Conv
