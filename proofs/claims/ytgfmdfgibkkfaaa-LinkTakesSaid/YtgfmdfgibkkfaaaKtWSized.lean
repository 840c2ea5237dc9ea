import Derived.SizedLaws
import Derived.ChangeSlices
namespace Go.Proofs.YtgfmdfgibkkfaaaW.PrintWords
open Go.ChangeShapes Go.WideShapes
end Go.Proofs.YtgfmdfgibkkfaaaW.PrintWords
