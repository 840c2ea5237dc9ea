import Derived.Shelf.Spec.SlicesGrow
import Derived.Test.YtecfndblgefhdaaProg
open Go.Shelf Go.Proofs
shelf_lay_g Lays8.n4 Nm8 4 at Try 107 as Try.growW
