/-
  DERIVED. GIVEN WITH THE SEED: THE CARDS: each row of YtcigkejiompieaaDoorRows.lean that lists a variable, with what it lists TIED to the program's text (the seventh form; the later family's looks); each row that meets fmt, with fmt's text TOLD by the authors' own Lean function (tested against real Go, not proved from fmt's source: count such statements apart). THE CARD IS WHAT COUNTS. Prove the row's statement (the work); the ties are given (YtcigkejiompieaaDoorTie.lean); close each card by the builder's one call (the guide's Derived/Test/ToyasCard.lean, 'card_holds'). Laid BY PROGRAM, IN A SANDBOX (cutbox-door.mjs). By AI agents, Wed Nov 11 2026. No macro, syntax, notation, axiom, sorry.
-/
import Derived.Test.YtcigkejiompieaaDoorRows
import GoSem.ClaimSeven
namespace Go.Proofs.YtcigkejiompieaaDoor
namespace Rows

/-- THE TIED CARD OF 'counterfoillaw10.DirtyLists'. -/
def dirtyListsCard : Claim7 := { stood := { row := dirtyListsRow, standIns := [], harness := (true, "b549977e961bddac62a171756b75ec0482943d7c734b8805d4da255be9c9490a"), looks := false }, kinds := [], alts := [], laidByText := true, laidKinds := [.data], laidTests := true, laidLooks := .later }
def DirtyListsCardSaid : Prop := Claim7.holds Tryd.pinned (.plain (OpenSpec.ofChange dirtyListsSpec)) dirtyListsCard

/-- THE SECOND FORM's CARD OF 'counterfoillaw10.DirtyLists'. -/
def dirtyListsUptoCard : Claim7 := { stood := { row := dirtyListsUptoRow, standIns := [], harness := (true, "b549977e961bddac62a171756b75ec0482943d7c734b8805d4da255be9c9490a"), looks := false }, kinds := [], alts := [], laidByText := true, laidKinds := [.data], laidTests := true, laidLooks := .later }
def DirtyListsUptoCardSaid : Prop := Claim7.holds Tryd.pinned (.plain (OpenSpec.upto dirtyListsSpec)) dirtyListsUptoCard
end Rows
end Go.Proofs.YtcigkejiompieaaDoor
