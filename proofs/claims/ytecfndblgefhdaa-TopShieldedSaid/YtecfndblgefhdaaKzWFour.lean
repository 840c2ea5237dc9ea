import Derived.Test.YtecfndblgefhdaaKzWTab
import Derived.Test.YtecfndblgefhdaaKzWN
import Derived.Laws.StructEq
namespace Go.Proofs.YtecfndblgefhdaaW.PrintLast
section
variable {P : Program} {ops : Array Oper} {Q : Exit → Act → World → Prop} {md : Region.Mode} {S : World → Prop} {ds : List Nat} {T : Bool × List (List Nat × List Nat)}
end
end Go.Proofs.YtecfndblgefhdaaW.PrintLast
namespace Go.Proofs.YtecfndblgefhdaaW.PrintWords
open Go.RowKit
namespace Kd
section
variable {α : Type} {d : Kd α} {W : World} {g n : Nat} {S ok : Nat → Prop} {A : Option Addr} {ad : Addr} {xs : List α}
end
end Kd
end Go.Proofs.YtecfndblgefhdaaW.PrintWords
namespace Go.Proofs.YtecfndblgefhdaaW.PrintWords
open Go.RowKit
section
variable {w w' u : World} {m B g : Nat} {o : Obj} {row : Option Nat} {S : Nat → Prop} {a : Addr} {v : Value}
end
namespace Kd
section
variable {α : Type} {d : Kd α} {e base n m : Nat} {ok : Nat → Prop} {w w' : World} {v : Value} {A : Option Addr} {xs : List α}
end
end Kd
end Go.Proofs.YtecfndblgefhdaaW.PrintWords
namespace Go.Proofs.YtecfndblgefhdaaW.PrintWords
open Go.RowKit
section
variable {P : Program} {d : Nat} {xs ys : Array Value} {f : Field} {fs : List Field} {a b : Value} {r s : Bool} {w : World}
end
end Go.Proofs.YtecfndblgefhdaaW.PrintWords
