/-
  No cell of these rows narrows 'for every input' (looked for: loops, veiled, ifaces, maps, wideKeys, modest, calm, conditions, laid).
  DERIVED. THE GIVEN ROWS OF THIS SEAT. 11 by the template 'for every input the law returns true; each argument reads behind the call as it read before'; 0 by the template 'total and deterministic' (their statements: YtbnkmdcfillhoaaTotals.lean).
  GIVEN WITH THE SEED: the statements are not yours to turn. If you find one false, say at which input.
  Laid BY PROGRAM, IN A SANDBOX (cutbox-rows.mjs): the forced cells as the released guide's own fill.sh prints them over the translation b170b518d3ed42ce… (all of the seat's roots in one cut). By AI agents, Wed Nov 11 2026. No macro, syntax, notation, axiom, sorry.
-/
import Derived.Test.YtbnkmdcfillhoaaChecked
import GoSem.Claim
import GoSem.ClaimJoined
import GoSem.ClaimMapViews
import Derived.JoinedTies
import Derived.KernelRfl
namespace Go.Proofs.Ytbnkmdcfillhoaa
/- THE CELL 'sum', in the pinned program and in every row, IS THE sha256 OF THE DUMP (.gsa) THAT YtbnkmdcfillhoaaProg.lean LOADS. Nothing in Lean hashes anything: it is a label: what it is worth is what the hold of that sum in a sandbox is worth. -/
noncomputable def Try.pinned : Pinned := { name := "ytbnkmdcfillhoaa", sum := "b170b518d3ed42ce9650691b88ac5aaa1aab7e36fc46ac4bd56efbb62c18cc7c", checked := Try.checked }
namespace Rows
def none {H : Type} : Left H := { results := [], args := [] }

/-- 'counterfoillaw01.OctetPuts': WHATEVER THE INPUT: true; the input reads as it did. -/
def octetPutsSpec : ChangeSpec := { name := "octetPuts", fn := fun _ => fun
  | [d1, d2] => { results := [.lit (.bool true)], args := [d1, d2] }
  | _ => none }
def octetPutsRow : OpenClaim := { program := "ytbnkmdcfillhoaa", sum := "b170b518d3ed42ce9650691b88ac5aaa1aab7e36fc46ac4bd56efbb62c18cc7c", func := "counterfoil/counterfoillaw01.OctetPuts", spec := "octetPuts", apart := false }
def OctetPutsSaid : Prop := octetPutsRow.holds Try.pinned (OpenSpec.ofChange octetPutsSpec)

/-- ITS FALSE NEIGHBOUR: 'it returns false'. Refute it at one input. -/
def octetPutsWrong : ChangeSpec := { name := "octetPuts", fn := fun _ => fun
  | [d1, d2] => { results := [.lit (.bool false)], args := [d1, d2] }
  | _ => none }
def OctetPutsWrongFalsely : Prop := octetPutsRow.holds Try.pinned (OpenSpec.ofChange octetPutsWrong)

/-- 'counterfoillaw01.OctetGets': WHATEVER THE INPUT: true; the input reads as it did. -/
def octetGetsSpec : ChangeSpec := { name := "octetGets", fn := fun _ => fun
  | [d] => { results := [.lit (.bool true)], args := [d] }
  | _ => none }
def octetGetsRow : OpenClaim := { program := "ytbnkmdcfillhoaa", sum := "b170b518d3ed42ce9650691b88ac5aaa1aab7e36fc46ac4bd56efbb62c18cc7c", func := "counterfoil/counterfoillaw01.OctetGets", spec := "octetGets", apart := false }
def OctetGetsSaid : Prop := octetGetsRow.holds Try.pinned (OpenSpec.ofChange octetGetsSpec)

/-- ITS FALSE NEIGHBOUR: 'it returns false'. Refute it at one input. -/
def octetGetsWrong : ChangeSpec := { name := "octetGets", fn := fun _ => fun
  | [d] => { results := [.lit (.bool false)], args := [d] }
  | _ => none }
def OctetGetsWrongFalsely : Prop := octetGetsRow.holds Try.pinned (OpenSpec.ofChange octetGetsWrong)

/-- 'counterfoillaw01.OctetOrder': WHATEVER THE INPUT: true; the input reads as it did. -/
def octetOrderSpec : ChangeSpec := { name := "octetOrder", fn := fun _ => fun
  | [d1, d2, d3] => { results := [.lit (.bool true)], args := [d1, d2, d3] }
  | _ => none }
def octetOrderRow : OpenClaim := { program := "ytbnkmdcfillhoaa", sum := "b170b518d3ed42ce9650691b88ac5aaa1aab7e36fc46ac4bd56efbb62c18cc7c", func := "counterfoil/counterfoillaw01.OctetOrder", spec := "octetOrder", apart := false }
def OctetOrderSaid : Prop := octetOrderRow.holds Try.pinned (OpenSpec.ofChange octetOrderSpec)

/-- ITS FALSE NEIGHBOUR: 'it returns false'. Refute it at one input. -/
def octetOrderWrong : ChangeSpec := { name := "octetOrder", fn := fun _ => fun
  | [d1, d2, d3] => { results := [.lit (.bool false)], args := [d1, d2, d3] }
  | _ => none }
def OctetOrderWrongFalsely : Prop := octetOrderRow.holds Try.pinned (OpenSpec.ofChange octetOrderWrong)

/-- 'counterfoillaw01.OctetNumbers': WHATEVER THE INPUT: true; the input reads as it did. -/
def octetNumbersSpec : ChangeSpec := { name := "octetNumbers", fn := fun _ => fun
  | [d1, d2] => { results := [.lit (.bool true)], args := [d1, d2] }
  | _ => none }
def octetNumbersRow : OpenClaim := { program := "ytbnkmdcfillhoaa", sum := "b170b518d3ed42ce9650691b88ac5aaa1aab7e36fc46ac4bd56efbb62c18cc7c", func := "counterfoil/counterfoillaw01.OctetNumbers", spec := "octetNumbers", apart := false }
def OctetNumbersSaid : Prop := octetNumbersRow.holds Try.pinned (OpenSpec.ofChange octetNumbersSpec)

/-- ITS FALSE NEIGHBOUR: 'it returns false'. Refute it at one input. -/
def octetNumbersWrong : ChangeSpec := { name := "octetNumbers", fn := fun _ => fun
  | [d1, d2] => { results := [.lit (.bool false)], args := [d1, d2] }
  | _ => none }
def OctetNumbersWrongFalsely : Prop := octetNumbersRow.holds Try.pinned (OpenSpec.ofChange octetNumbersWrong)

/-- 'counterfoillaw01.OctetBack': WHATEVER THE INPUT: true; the input reads as it did. -/
def octetBackSpec : ChangeSpec := { name := "octetBack", fn := fun _ => fun
  | [d1, d2, d3] => { results := [.lit (.bool true)], args := [d1, d2, d3] }
  | _ => none }
def octetBackRow : OpenClaim := { program := "ytbnkmdcfillhoaa", sum := "b170b518d3ed42ce9650691b88ac5aaa1aab7e36fc46ac4bd56efbb62c18cc7c", func := "counterfoil/counterfoillaw01.OctetBack", spec := "octetBack", apart := false }
def OctetBackSaid : Prop := octetBackRow.holds Try.pinned (OpenSpec.ofChange octetBackSpec)

/-- ITS FALSE NEIGHBOUR: 'it returns false'. Refute it at one input. -/
def octetBackWrong : ChangeSpec := { name := "octetBack", fn := fun _ => fun
  | [d1, d2, d3] => { results := [.lit (.bool false)], args := [d1, d2, d3] }
  | _ => none }
def OctetBackWrongFalsely : Prop := octetBackRow.holds Try.pinned (OpenSpec.ofChange octetBackWrong)

/-- 'counterfoillaw01.OctetShort': WHATEVER THE INPUT: true; the input reads as it did. -/
def octetShortSpec : ChangeSpec := { name := "octetShort", fn := fun _ => fun
  | [d1, d2, d3] => { results := [.lit (.bool true)], args := [d1, d2, d3] }
  | _ => none }
def octetShortRow : OpenClaim := { program := "ytbnkmdcfillhoaa", sum := "b170b518d3ed42ce9650691b88ac5aaa1aab7e36fc46ac4bd56efbb62c18cc7c", func := "counterfoil/counterfoillaw01.OctetShort", spec := "octetShort", apart := false }
def OctetShortSaid : Prop := octetShortRow.holds Try.pinned (OpenSpec.ofChange octetShortSpec)

/-- ITS FALSE NEIGHBOUR: 'it returns false'. Refute it at one input. -/
def octetShortWrong : ChangeSpec := { name := "octetShort", fn := fun _ => fun
  | [d1, d2, d3] => { results := [.lit (.bool false)], args := [d1, d2, d3] }
  | _ => none }
def OctetShortWrongFalsely : Prop := octetShortRow.holds Try.pinned (OpenSpec.ofChange octetShortWrong)

/-- 'counterfoillaw01.OctetLists': WHATEVER THE INPUT: true; the input reads as it did. -/
def octetListsSpec : ChangeSpec := { name := "octetLists", fn := fun _ => fun
  | [d] => { results := [.lit (.bool true)], args := [d] }
  | _ => none }
def octetListsRow : OpenClaim := { program := "ytbnkmdcfillhoaa", sum := "b170b518d3ed42ce9650691b88ac5aaa1aab7e36fc46ac4bd56efbb62c18cc7c", func := "counterfoil/counterfoillaw01.OctetLists", spec := "octetLists", apart := false }
def OctetListsSaid : Prop := octetListsRow.holds Try.pinned (OpenSpec.ofChange octetListsSpec)

/-- ITS FALSE NEIGHBOUR: 'it returns false'. Refute it at one input. -/
def octetListsWrong : ChangeSpec := { name := "octetLists", fn := fun _ => fun
  | [d] => { results := [.lit (.bool false)], args := [d] }
  | _ => none }
def OctetListsWrongFalsely : Prop := octetListsRow.holds Try.pinned (OpenSpec.ofChange octetListsWrong)

/-- 'counterfoillaw01.OctetTexts': WHATEVER THE INPUT: true; the input reads as it did. -/
def octetTextsSpec : ChangeSpec := { name := "octetTexts", fn := fun _ => fun
  | [d] => { results := [.lit (.bool true)], args := [d] }
  | _ => none }
def octetTextsRow : OpenClaim := { program := "ytbnkmdcfillhoaa", sum := "b170b518d3ed42ce9650691b88ac5aaa1aab7e36fc46ac4bd56efbb62c18cc7c", func := "counterfoil/counterfoillaw01.OctetTexts", spec := "octetTexts", apart := false }
def OctetTextsSaid : Prop := octetTextsRow.holds Try.pinned (OpenSpec.ofChange octetTextsSpec)

/-- ITS FALSE NEIGHBOUR: 'it returns false'. Refute it at one input. -/
def octetTextsWrong : ChangeSpec := { name := "octetTexts", fn := fun _ => fun
  | [d] => { results := [.lit (.bool false)], args := [d] }
  | _ => none }
def OctetTextsWrongFalsely : Prop := octetTextsRow.holds Try.pinned (OpenSpec.ofChange octetTextsWrong)

/-- 'counterfoillaw01.OctetTakes': WHATEVER THE INPUT: true; the input reads as it did. -/
def octetTakesSpec : ChangeSpec := { name := "octetTakes", fn := fun _ => fun
  | [d1, d2] => { results := [.lit (.bool true)], args := [d1, d2] }
  | _ => none }
def octetTakesRow : OpenClaim := { program := "ytbnkmdcfillhoaa", sum := "b170b518d3ed42ce9650691b88ac5aaa1aab7e36fc46ac4bd56efbb62c18cc7c", func := "counterfoil/counterfoillaw01.OctetTakes", spec := "octetTakes", apart := false }
def OctetTakesSaid : Prop := octetTakesRow.holds Try.pinned (OpenSpec.ofChange octetTakesSpec)

/-- ITS FALSE NEIGHBOUR: 'it returns false'. Refute it at one input. -/
def octetTakesWrong : ChangeSpec := { name := "octetTakes", fn := fun _ => fun
  | [d1, d2] => { results := [.lit (.bool false)], args := [d1, d2] }
  | _ => none }
def OctetTakesWrongFalsely : Prop := octetTakesRow.holds Try.pinned (OpenSpec.ofChange octetTakesWrong)

/-- 'counterfoillaw01.OctetItems': WHATEVER THE INPUT: true; the input reads as it did. -/
def octetItemsSpec : ChangeSpec := { name := "octetItems", fn := fun _ => fun
  | [d] => { results := [.lit (.bool true)], args := [d] }
  | _ => none }
def octetItemsRow : OpenClaim := { program := "ytbnkmdcfillhoaa", sum := "b170b518d3ed42ce9650691b88ac5aaa1aab7e36fc46ac4bd56efbb62c18cc7c", func := "counterfoil/counterfoillaw01.OctetItems", spec := "octetItems", apart := false }
def OctetItemsSaid : Prop := octetItemsRow.holds Try.pinned (OpenSpec.ofChange octetItemsSpec)

/-- ITS FALSE NEIGHBOUR: 'it returns false'. Refute it at one input. -/
def octetItemsWrong : ChangeSpec := { name := "octetItems", fn := fun _ => fun
  | [d] => { results := [.lit (.bool false)], args := [d] }
  | _ => none }
def OctetItemsWrongFalsely : Prop := octetItemsRow.holds Try.pinned (OpenSpec.ofChange octetItemsWrong)

/-- 'counterfoillaw01.OctetKept': WHATEVER THE INPUT: true; the input reads as it did. -/
def octetKeptSpec : ChangeSpec := { name := "octetKept", fn := fun _ => fun
  | [d1, d2] => { results := [.lit (.bool true)], args := [d1, d2] }
  | _ => none }
def octetKeptRow : OpenClaim := { program := "ytbnkmdcfillhoaa", sum := "b170b518d3ed42ce9650691b88ac5aaa1aab7e36fc46ac4bd56efbb62c18cc7c", func := "counterfoil/counterfoillaw01.OctetKept", spec := "octetKept", apart := false }
def OctetKeptSaid : Prop := octetKeptRow.holds Try.pinned (OpenSpec.ofChange octetKeptSpec)

/-- ITS FALSE NEIGHBOUR: 'it returns false'. Refute it at one input. -/
def octetKeptWrong : ChangeSpec := { name := "octetKept", fn := fun _ => fun
  | [d1, d2] => { results := [.lit (.bool false)], args := [d1, d2] }
  | _ => none }
def OctetKeptWrongFalsely : Prop := octetKeptRow.holds Try.pinned (OpenSpec.ofChange octetKeptWrong)

/- THE SECOND FORM. 'bulk': how many values and letters a reading holds, each counted each time it is reached (what is shared counts as often as it is met; a slice's spare places count too). A statement '..UptoSaid' is the law's where the arguments, and the package variables that the reading takes, are together of bulk at most 1048576: NARROWER than '..Said'. Prove '..Said' where nothing that the law and all that it calls make is longer than what came in: it says more and counts as full. Else prove '..UptoSaid'. A law counts once. -/
mutual
def uptoBulk {H : Type} : DataW H → Nat
  | .lit (.string bytes) => bytes.length + 1
  | .lit _ => 1
  | .nil => 1
  | .ptr d => uptoBulk d + 1
  | .slice elems spare => uptoBulkAll elems + uptoBulkAll spare + 1
  | .agg parts => uptoBulkAll parts + 1
  | .iface _ d => uptoBulk d + 1
  | .map entries => uptoBulkEntries entries + 1
  | .held _ => 1
def uptoBulkAll {H : Type} : List (DataW H) → Nat
  | [] => 0
  | d :: r => uptoBulk d + uptoBulkAll r
def uptoBulkEntries {H : Type} : List (Lit × DataW H) → Nat
  | [] => 0
  | x :: r => uptoBulkEntry x + uptoBulkEntries r
def uptoBulkEntry {H : Type} : Lit × DataW H → Nat
  | (.string bytes, d) => bytes.length + uptoBulk d + 1
  | (_, d) => uptoBulk d + 1
 end
def uptoSmall : (H : Type) → List (DataW H) → Bool := fun _ ds => decide (uptoBulkAll ds ≤ 1048576)
def OpenSpec.upto (s : _root_.Go.ChangeSpec) : _root_.Go.OpenSpec := { _root_.Go.OpenSpec.ofChange s with cond := some uptoSmall }

/-- 'counterfoillaw01.OctetPuts', WHERE WHAT IT READS IS OF BULK AT MOST 1048576: true; the input reads as it did. -/
def octetPutsUptoRow : OpenClaim := { program := "ytbnkmdcfillhoaa", sum := "b170b518d3ed42ce9650691b88ac5aaa1aab7e36fc46ac4bd56efbb62c18cc7c", func := "counterfoil/counterfoillaw01.OctetPuts", spec := "octetPuts", apart := false, narrowed := true }
def OctetPutsUptoSaid : Prop := octetPutsUptoRow.holds Try.pinned (OpenSpec.upto octetPutsSpec)

/-- 'counterfoillaw01.OctetGets', WHERE WHAT IT READS IS OF BULK AT MOST 1048576: true; the input reads as it did. -/
def octetGetsUptoRow : OpenClaim := { program := "ytbnkmdcfillhoaa", sum := "b170b518d3ed42ce9650691b88ac5aaa1aab7e36fc46ac4bd56efbb62c18cc7c", func := "counterfoil/counterfoillaw01.OctetGets", spec := "octetGets", apart := false, narrowed := true }
def OctetGetsUptoSaid : Prop := octetGetsUptoRow.holds Try.pinned (OpenSpec.upto octetGetsSpec)

/-- 'counterfoillaw01.OctetOrder', WHERE WHAT IT READS IS OF BULK AT MOST 1048576: true; the input reads as it did. -/
def octetOrderUptoRow : OpenClaim := { program := "ytbnkmdcfillhoaa", sum := "b170b518d3ed42ce9650691b88ac5aaa1aab7e36fc46ac4bd56efbb62c18cc7c", func := "counterfoil/counterfoillaw01.OctetOrder", spec := "octetOrder", apart := false, narrowed := true }
def OctetOrderUptoSaid : Prop := octetOrderUptoRow.holds Try.pinned (OpenSpec.upto octetOrderSpec)

/-- 'counterfoillaw01.OctetNumbers', WHERE WHAT IT READS IS OF BULK AT MOST 1048576: true; the input reads as it did. -/
def octetNumbersUptoRow : OpenClaim := { program := "ytbnkmdcfillhoaa", sum := "b170b518d3ed42ce9650691b88ac5aaa1aab7e36fc46ac4bd56efbb62c18cc7c", func := "counterfoil/counterfoillaw01.OctetNumbers", spec := "octetNumbers", apart := false, narrowed := true }
def OctetNumbersUptoSaid : Prop := octetNumbersUptoRow.holds Try.pinned (OpenSpec.upto octetNumbersSpec)

/-- 'counterfoillaw01.OctetBack', WHERE WHAT IT READS IS OF BULK AT MOST 1048576: true; the input reads as it did. -/
def octetBackUptoRow : OpenClaim := { program := "ytbnkmdcfillhoaa", sum := "b170b518d3ed42ce9650691b88ac5aaa1aab7e36fc46ac4bd56efbb62c18cc7c", func := "counterfoil/counterfoillaw01.OctetBack", spec := "octetBack", apart := false, narrowed := true }
def OctetBackUptoSaid : Prop := octetBackUptoRow.holds Try.pinned (OpenSpec.upto octetBackSpec)

/-- 'counterfoillaw01.OctetShort', WHERE WHAT IT READS IS OF BULK AT MOST 1048576: true; the input reads as it did. -/
def octetShortUptoRow : OpenClaim := { program := "ytbnkmdcfillhoaa", sum := "b170b518d3ed42ce9650691b88ac5aaa1aab7e36fc46ac4bd56efbb62c18cc7c", func := "counterfoil/counterfoillaw01.OctetShort", spec := "octetShort", apart := false, narrowed := true }
def OctetShortUptoSaid : Prop := octetShortUptoRow.holds Try.pinned (OpenSpec.upto octetShortSpec)

/-- 'counterfoillaw01.OctetLists', WHERE WHAT IT READS IS OF BULK AT MOST 1048576: true; the input reads as it did. -/
def octetListsUptoRow : OpenClaim := { program := "ytbnkmdcfillhoaa", sum := "b170b518d3ed42ce9650691b88ac5aaa1aab7e36fc46ac4bd56efbb62c18cc7c", func := "counterfoil/counterfoillaw01.OctetLists", spec := "octetLists", apart := false, narrowed := true }
def OctetListsUptoSaid : Prop := octetListsUptoRow.holds Try.pinned (OpenSpec.upto octetListsSpec)

/-- 'counterfoillaw01.OctetTexts', WHERE WHAT IT READS IS OF BULK AT MOST 1048576: true; the input reads as it did. -/
def octetTextsUptoRow : OpenClaim := { program := "ytbnkmdcfillhoaa", sum := "b170b518d3ed42ce9650691b88ac5aaa1aab7e36fc46ac4bd56efbb62c18cc7c", func := "counterfoil/counterfoillaw01.OctetTexts", spec := "octetTexts", apart := false, narrowed := true }
def OctetTextsUptoSaid : Prop := octetTextsUptoRow.holds Try.pinned (OpenSpec.upto octetTextsSpec)

/-- 'counterfoillaw01.OctetTakes', WHERE WHAT IT READS IS OF BULK AT MOST 1048576: true; the input reads as it did. -/
def octetTakesUptoRow : OpenClaim := { program := "ytbnkmdcfillhoaa", sum := "b170b518d3ed42ce9650691b88ac5aaa1aab7e36fc46ac4bd56efbb62c18cc7c", func := "counterfoil/counterfoillaw01.OctetTakes", spec := "octetTakes", apart := false, narrowed := true }
def OctetTakesUptoSaid : Prop := octetTakesUptoRow.holds Try.pinned (OpenSpec.upto octetTakesSpec)

/-- 'counterfoillaw01.OctetItems', WHERE WHAT IT READS IS OF BULK AT MOST 1048576: true; the input reads as it did. -/
def octetItemsUptoRow : OpenClaim := { program := "ytbnkmdcfillhoaa", sum := "b170b518d3ed42ce9650691b88ac5aaa1aab7e36fc46ac4bd56efbb62c18cc7c", func := "counterfoil/counterfoillaw01.OctetItems", spec := "octetItems", apart := false, narrowed := true }
def OctetItemsUptoSaid : Prop := octetItemsUptoRow.holds Try.pinned (OpenSpec.upto octetItemsSpec)

/-- 'counterfoillaw01.OctetKept', WHERE WHAT IT READS IS OF BULK AT MOST 1048576: true; the input reads as it did. -/
def octetKeptUptoRow : OpenClaim := { program := "ytbnkmdcfillhoaa", sum := "b170b518d3ed42ce9650691b88ac5aaa1aab7e36fc46ac4bd56efbb62c18cc7c", func := "counterfoil/counterfoillaw01.OctetKept", spec := "octetKept", apart := false, narrowed := true }
def OctetKeptUptoSaid : Prop := octetKeptUptoRow.holds Try.pinned (OpenSpec.upto octetKeptSpec)

end Rows
end Go.Proofs.Ytbnkmdcfillhoaa
