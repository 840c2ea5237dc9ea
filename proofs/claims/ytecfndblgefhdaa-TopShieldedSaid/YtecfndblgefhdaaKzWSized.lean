import Derived.SizedLaws
import Derived.ChangeSlices
namespace Go.Proofs.YtecfndblgefhdaaW.PrintWords
open Go.ChangeShapes Go.WideShapes
end Go.Proofs.YtecfndblgefhdaaW.PrintWords
