import Derived.Test.YtecfndblgefhdaaKzWFour
namespace Go.Proofs.YtecfndblgefhdaaW.PrintLast
section
variable {P : Program} {ops : Array Oper} {Q : Exit → Act → World → Prop} {md : Region.Mode} {T : Bool × List (List Nat × List Nat)} {B : List Nat} {O : List Nat} {b : Nat → Bool} {i j n : Nat}
end
end Go.Proofs.YtecfndblgefhdaaW.PrintLast
namespace Go.Proofs.YtecfndblgefhdaaW.PrintWords
open Go.RowKit
end Go.Proofs.YtecfndblgefhdaaW.PrintWords
namespace Go.Proofs.YtecfndblgefhdaaW.PrintLast
section
variable {ops : Array Oper} {a : Act} {o og : Oper} {g : Nat} {t : Tmp} {u : Bool}
end
end Go.Proofs.YtecfndblgefhdaaW.PrintLast
namespace Go.Proofs.YtecfndblgefhdaaW.PrintWords
open Go.RowKit
section
variable {P : Program} {ops : Array Oper} {rest : List Oper} {o : Oper} {a : Act} {Q : Exit → Act → World → Prop} {W : World}
theorem gate_guard (hw : Region.wanted o (yielded ops a.tmps) = true) (h : wpList P ops Q ({ o with guard := none } :: rest) a W) : wpList P ops Q (o :: rest) a W := by
  have h1 : Region.wanted { o with guard := none } (yielded ops a.tmps) = true := rfl
  unfold wpList at h ⊢
  rw [if_pos h1] at h
  rw [if_pos hw]
  exact h
end
end Go.Proofs.YtecfndblgefhdaaW.PrintWords
