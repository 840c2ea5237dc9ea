-- Words of the print that this claim uses, taken out by this session's own program wip/pack.py
import Derived.Test.YtgfmdfgibkkfaaaKsWWords
import Derived.Laws.StructEq
/-! ### 53. '==' of structs as_ one Bool -/
namespace Go.Proofs.YtgfmdfgibkkfaaaW.PrintWords
open Go.RowKit
section
variable {P : Program} {d : Nat} {xs ys : Array Value} {f : Field} {fs : List Field} {a b : Value} {r s : Bool} {w : World}
end
end Go.Proofs.YtgfmdfgibkkfaaaW.PrintWords
