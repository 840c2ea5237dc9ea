/-
  No cell of these rows narrows 'for every input' (looked for: loops, veiled, ifaces, maps, wideKeys, modest, calm, conditions, laid).
  DERIVED. THE GIVEN ROWS OF THIS SEAT. 7 by the template 'for every input the law returns true; each argument reads behind the call as it read before'; 0 by the template 'total and deterministic' (their statements: YtpejcejkgbbbbaaTotals.lean).
  GIVEN WITH THE SEED: the statements are not yours to turn. If you find one false, say at which input.
  Laid BY PROGRAM, IN A SANDBOX (cutbox-rows.mjs): the forced cells as the released guide's own fill.sh prints them over the translation c57d894f1fde665f… (all of the seat's roots in one cut). By AI agents, Wed Nov 11 2026. No macro, syntax, notation, axiom, sorry.
-/
import Derived.Test.YtpejcejkgbbbbaaChecked
import GoSem.Claim
import GoSem.ClaimJoined
import GoSem.ClaimMapViews
import Derived.JoinedTies
import Derived.KernelRfl
namespace Go.Proofs.Ytpejcejkgbbbbaa
/- THE CELL 'sum', in the pinned program and in every row, IS THE sha256 OF THE DUMP (.gsa) THAT YtpejcejkgbbbbaaProg.lean LOADS. Nothing in Lean hashes anything: it is a label: what it is worth is what the hold of that sum in a sandbox is worth. -/
noncomputable def Try.pinned : Pinned := { name := "ytpejcejkgbbbbaa", sum := "c57d894f1fde665fda2bdaeb0cbcb626475e69224ae99db0db448c762183d236", checked := Try.checked }
namespace Rows
def none {H : Type} : Left H := { results := [], args := [] }

/-- 'counterfoillaw02.SumTells': WHATEVER THE INPUT: true; the input reads as it did. -/
def sumTellsSpec : ChangeSpec := { name := "sumTells", fn := fun _ => fun
  | [d1, d2] => { results := [.lit (.bool true)], args := [d1, d2] }
  | _ => none }
def sumTellsRow : OpenClaim := { program := "ytpejcejkgbbbbaa", sum := "c57d894f1fde665fda2bdaeb0cbcb626475e69224ae99db0db448c762183d236", func := "counterfoil/counterfoillaw02.SumTells", spec := "sumTells", apart := false }
def SumTellsSaid : Prop := sumTellsRow.holds Try.pinned (OpenSpec.ofChange sumTellsSpec)

/-- ITS FALSE NEIGHBOUR: 'it returns false'. Refute it at one input. -/
def sumTellsWrong : ChangeSpec := { name := "sumTells", fn := fun _ => fun
  | [d1, d2] => { results := [.lit (.bool false)], args := [d1, d2] }
  | _ => none }
def SumTellsWrongFalsely : Prop := sumTellsRow.holds Try.pinned (OpenSpec.ofChange sumTellsWrong)

/-- 'counterfoillaw02.SumTable': WHATEVER THE INPUT: true; the input reads as it did. -/
def sumTableSpec : ChangeSpec := { name := "sumTable", fn := fun _ => fun
  | [d] => { results := [.lit (.bool true)], args := [d] }
  | _ => none }
def sumTableRow : OpenClaim := { program := "ytpejcejkgbbbbaa", sum := "c57d894f1fde665fda2bdaeb0cbcb626475e69224ae99db0db448c762183d236", func := "counterfoil/counterfoillaw02.SumTable", spec := "sumTable", apart := false }
def SumTableSaid : Prop := sumTableRow.holds Try.pinned (OpenSpec.ofChange sumTableSpec)

/-- ITS FALSE NEIGHBOUR: 'it returns false'. Refute it at one input. -/
def sumTableWrong : ChangeSpec := { name := "sumTable", fn := fun _ => fun
  | [d] => { results := [.lit (.bool false)], args := [d] }
  | _ => none }
def SumTableWrongFalsely : Prop := sumTableRow.holds Try.pinned (OpenSpec.ofChange sumTableWrong)

/-- 'counterfoillaw02.SumJoins': WHATEVER THE INPUT: true; the input reads as it did. -/
def sumJoinsSpec : ChangeSpec := { name := "sumJoins", fn := fun _ => fun
  | [d1, d2, d3] => { results := [.lit (.bool true)], args := [d1, d2, d3] }
  | _ => none }
def sumJoinsRow : OpenClaim := { program := "ytpejcejkgbbbbaa", sum := "c57d894f1fde665fda2bdaeb0cbcb626475e69224ae99db0db448c762183d236", func := "counterfoil/counterfoillaw02.SumJoins", spec := "sumJoins", apart := false }
def SumJoinsSaid : Prop := sumJoinsRow.holds Try.pinned (OpenSpec.ofChange sumJoinsSpec)

/-- ITS FALSE NEIGHBOUR: 'it returns false'. Refute it at one input. -/
def sumJoinsWrong : ChangeSpec := { name := "sumJoins", fn := fun _ => fun
  | [d1, d2, d3] => { results := [.lit (.bool false)], args := [d1, d2, d3] }
  | _ => none }
def SumJoinsWrongFalsely : Prop := sumJoinsRow.holds Try.pinned (OpenSpec.ofChange sumJoinsWrong)

/-- 'counterfoillaw02.SumOne': WHATEVER THE INPUT: true; the input reads as it did. -/
def sumOneSpec : ChangeSpec := { name := "sumOne", fn := fun _ => fun
  | [d1, d2, d3] => { results := [.lit (.bool true)], args := [d1, d2, d3] }
  | _ => none }
def sumOneRow : OpenClaim := { program := "ytpejcejkgbbbbaa", sum := "c57d894f1fde665fda2bdaeb0cbcb626475e69224ae99db0db448c762183d236", func := "counterfoil/counterfoillaw02.SumOne", spec := "sumOne", apart := false }
def SumOneSaid : Prop := sumOneRow.holds Try.pinned (OpenSpec.ofChange sumOneSpec)

/-- ITS FALSE NEIGHBOUR: 'it returns false'. Refute it at one input. -/
def sumOneWrong : ChangeSpec := { name := "sumOne", fn := fun _ => fun
  | [d1, d2, d3] => { results := [.lit (.bool false)], args := [d1, d2, d3] }
  | _ => none }
def SumOneWrongFalsely : Prop := sumOneRow.holds Try.pinned (OpenSpec.ofChange sumOneWrong)

/-- 'counterfoillaw02.SumFour': WHATEVER THE INPUT: true; the input reads as it did. -/
def sumFourSpec : ChangeSpec := { name := "sumFour", fn := fun _ => fun
  | [d1, d2, d3] => { results := [.lit (.bool true)], args := [d1, d2, d3] }
  | _ => none }
def sumFourRow : OpenClaim := { program := "ytpejcejkgbbbbaa", sum := "c57d894f1fde665fda2bdaeb0cbcb626475e69224ae99db0db448c762183d236", func := "counterfoil/counterfoillaw02.SumFour", spec := "sumFour", apart := false }
def SumFourSaid : Prop := sumFourRow.holds Try.pinned (OpenSpec.ofChange sumFourSpec)

/-- ITS FALSE NEIGHBOUR: 'it returns false'. Refute it at one input. -/
def sumFourWrong : ChangeSpec := { name := "sumFour", fn := fun _ => fun
  | [d1, d2, d3] => { results := [.lit (.bool false)], args := [d1, d2, d3] }
  | _ => none }
def SumFourWrongFalsely : Prop := sumFourRow.holds Try.pinned (OpenSpec.ofChange sumFourWrong)

/-- 'counterfoillaw02.SumRight': WHATEVER THE INPUT: true; the input reads as it did. -/
def sumRightSpec : ChangeSpec := { name := "sumRight", fn := fun _ => fun
  | [d] => { results := [.lit (.bool true)], args := [d] }
  | _ => none }
def sumRightRow : OpenClaim := { program := "ytpejcejkgbbbbaa", sum := "c57d894f1fde665fda2bdaeb0cbcb626475e69224ae99db0db448c762183d236", func := "counterfoil/counterfoillaw02.SumRight", spec := "sumRight", apart := false }
def SumRightSaid : Prop := sumRightRow.holds Try.pinned (OpenSpec.ofChange sumRightSpec)

/-- ITS FALSE NEIGHBOUR: 'it returns false'. Refute it at one input. -/
def sumRightWrong : ChangeSpec := { name := "sumRight", fn := fun _ => fun
  | [d] => { results := [.lit (.bool false)], args := [d] }
  | _ => none }
def SumRightWrongFalsely : Prop := sumRightRow.holds Try.pinned (OpenSpec.ofChange sumRightWrong)

/-- 'counterfoillaw02.SumEnds': WHATEVER THE INPUT: true; the input reads as it did. -/
def sumEndsSpec : ChangeSpec := { name := "sumEnds", fn := fun _ => fun
  | [d1, d2, d3] => { results := [.lit (.bool true)], args := [d1, d2, d3] }
  | _ => none }
def sumEndsRow : OpenClaim := { program := "ytpejcejkgbbbbaa", sum := "c57d894f1fde665fda2bdaeb0cbcb626475e69224ae99db0db448c762183d236", func := "counterfoil/counterfoillaw02.SumEnds", spec := "sumEnds", apart := false }
def SumEndsSaid : Prop := sumEndsRow.holds Try.pinned (OpenSpec.ofChange sumEndsSpec)

/-- ITS FALSE NEIGHBOUR: 'it returns false'. Refute it at one input. -/
def sumEndsWrong : ChangeSpec := { name := "sumEnds", fn := fun _ => fun
  | [d1, d2, d3] => { results := [.lit (.bool false)], args := [d1, d2, d3] }
  | _ => none }
def SumEndsWrongFalsely : Prop := sumEndsRow.holds Try.pinned (OpenSpec.ofChange sumEndsWrong)

/- THE SECOND FORM. 'bulk': how many values and letters a reading holds, each counted each time it is reached (what is shared counts as often as it is met; a slice's spare places count too). A statement '..UptoSaid' is the law's where the arguments, and the package variables that the reading takes, are together of bulk at most 1048576: NARROWER than '..Said'. Prove '..Said' where nothing that the law and all that it calls make is longer than what came in: it says more and counts as full. Else prove '..UptoSaid'. A law counts once. -/
mutual
def uptoBulk {H : Type} : DataW H → Nat
  | .lit (.string bytes) => bytes.length + 1
  | .lit _ => 1
  | .nil => 1
  | .ptr d => uptoBulk d + 1
  | .slice elems spare => uptoBulkAll elems + uptoBulkAll spare + 1
  | .agg parts => uptoBulkAll parts + 1
  | .iface _ d => uptoBulk d + 1
  | .map entries => uptoBulkEntries entries + 1
  | .held _ => 1
def uptoBulkAll {H : Type} : List (DataW H) → Nat
  | [] => 0
  | d :: r => uptoBulk d + uptoBulkAll r
def uptoBulkEntries {H : Type} : List (Lit × DataW H) → Nat
  | [] => 0
  | x :: r => uptoBulkEntry x + uptoBulkEntries r
def uptoBulkEntry {H : Type} : Lit × DataW H → Nat
  | (.string bytes, d) => bytes.length + uptoBulk d + 1
  | (_, d) => uptoBulk d + 1
 end
def uptoSmall : (H : Type) → List (DataW H) → Bool := fun _ ds => decide (uptoBulkAll ds ≤ 1048576)
def OpenSpec.upto (s : _root_.Go.ChangeSpec) : _root_.Go.OpenSpec := { _root_.Go.OpenSpec.ofChange s with cond := some uptoSmall }

/-- 'counterfoillaw02.SumTells', WHERE WHAT IT READS IS OF BULK AT MOST 1048576: true; the input reads as it did. -/
def sumTellsUptoRow : OpenClaim := { program := "ytpejcejkgbbbbaa", sum := "c57d894f1fde665fda2bdaeb0cbcb626475e69224ae99db0db448c762183d236", func := "counterfoil/counterfoillaw02.SumTells", spec := "sumTells", apart := false, narrowed := true }
def SumTellsUptoSaid : Prop := sumTellsUptoRow.holds Try.pinned (OpenSpec.upto sumTellsSpec)

/-- 'counterfoillaw02.SumTable', WHERE WHAT IT READS IS OF BULK AT MOST 1048576: true; the input reads as it did. -/
def sumTableUptoRow : OpenClaim := { program := "ytpejcejkgbbbbaa", sum := "c57d894f1fde665fda2bdaeb0cbcb626475e69224ae99db0db448c762183d236", func := "counterfoil/counterfoillaw02.SumTable", spec := "sumTable", apart := false, narrowed := true }
def SumTableUptoSaid : Prop := sumTableUptoRow.holds Try.pinned (OpenSpec.upto sumTableSpec)

/-- 'counterfoillaw02.SumJoins', WHERE WHAT IT READS IS OF BULK AT MOST 1048576: true; the input reads as it did. -/
def sumJoinsUptoRow : OpenClaim := { program := "ytpejcejkgbbbbaa", sum := "c57d894f1fde665fda2bdaeb0cbcb626475e69224ae99db0db448c762183d236", func := "counterfoil/counterfoillaw02.SumJoins", spec := "sumJoins", apart := false, narrowed := true }
def SumJoinsUptoSaid : Prop := sumJoinsUptoRow.holds Try.pinned (OpenSpec.upto sumJoinsSpec)

/-- 'counterfoillaw02.SumOne', WHERE WHAT IT READS IS OF BULK AT MOST 1048576: true; the input reads as it did. -/
def sumOneUptoRow : OpenClaim := { program := "ytpejcejkgbbbbaa", sum := "c57d894f1fde665fda2bdaeb0cbcb626475e69224ae99db0db448c762183d236", func := "counterfoil/counterfoillaw02.SumOne", spec := "sumOne", apart := false, narrowed := true }
def SumOneUptoSaid : Prop := sumOneUptoRow.holds Try.pinned (OpenSpec.upto sumOneSpec)

/-- 'counterfoillaw02.SumFour', WHERE WHAT IT READS IS OF BULK AT MOST 1048576: true; the input reads as it did. -/
def sumFourUptoRow : OpenClaim := { program := "ytpejcejkgbbbbaa", sum := "c57d894f1fde665fda2bdaeb0cbcb626475e69224ae99db0db448c762183d236", func := "counterfoil/counterfoillaw02.SumFour", spec := "sumFour", apart := false, narrowed := true }
def SumFourUptoSaid : Prop := sumFourUptoRow.holds Try.pinned (OpenSpec.upto sumFourSpec)

/-- 'counterfoillaw02.SumRight', WHERE WHAT IT READS IS OF BULK AT MOST 1048576: true; the input reads as it did. -/
def sumRightUptoRow : OpenClaim := { program := "ytpejcejkgbbbbaa", sum := "c57d894f1fde665fda2bdaeb0cbcb626475e69224ae99db0db448c762183d236", func := "counterfoil/counterfoillaw02.SumRight", spec := "sumRight", apart := false, narrowed := true }
def SumRightUptoSaid : Prop := sumRightUptoRow.holds Try.pinned (OpenSpec.upto sumRightSpec)

/-- 'counterfoillaw02.SumEnds', WHERE WHAT IT READS IS OF BULK AT MOST 1048576: true; the input reads as it did. -/
def sumEndsUptoRow : OpenClaim := { program := "ytpejcejkgbbbbaa", sum := "c57d894f1fde665fda2bdaeb0cbcb626475e69224ae99db0db448c762183d236", func := "counterfoil/counterfoillaw02.SumEnds", spec := "sumEnds", apart := false, narrowed := true }
def SumEndsUptoSaid : Prop := sumEndsUptoRow.holds Try.pinned (OpenSpec.upto sumEndsSpec)

end Rows
end Go.Proofs.Ytpejcejkgbbbbaa
