import Derived.Test.YtecfndblgefhdaaKsWTab
import Derived.Test.YtecfndblgefhdaaKsWN
namespace Go.Proofs.YtecfndblgefhdaaW.PrintLast
section
variable {P : Program} {ops : Array Oper} {Q : Exit → Act → World → Prop} {md : Region.Mode} {S : World → Prop} {ds : List Nat} {T : Bool × List (List Nat × List Nat)}
end
end Go.Proofs.YtecfndblgefhdaaW.PrintLast
namespace Go.Proofs.YtecfndblgefhdaaW.PrintWords
open Go.RowKit
namespace Kd
section
variable {α : Type} {d : Kd α} {W : World} {g n : Nat} {S ok : Nat → Prop} {A : Option Addr} {ad : Addr} {xs : List α}
end
end Kd
end Go.Proofs.YtecfndblgefhdaaW.PrintWords
