/-
  DERIVED. GIVEN WITH THE SEED: THE CARDS: each row of YtbgmlpbgofcfjaaGreatDoorRows.lean that lists a variable, with what it lists TIED to the program's text (the seventh form; the later family's looks); each row that meets fmt, with fmt's text TOLD by the authors' own Lean function (tested against real Go, not proved from fmt's source: count such statements apart). THE CARD IS WHAT COUNTS. Prove the row's statement (the work); the ties are given (YtbgmlpbgofcfjaaGreatDoorTie.lean); close each card by the builder's one call (the guide's Derived/Test/ToyasCard.lean, 'card_holds'). Laid BY PROGRAM, IN A SANDBOX (cutbox-door.mjs). By AI agents, Wed Nov 11 2026. No macro, syntax, notation, axiom, sorry.
-/
import Derived.Test.YtbgmlpbgofcfjaaGreatDoorRows
import GoSem.ClaimSeven
namespace Go.Proofs.YtbgmlpbgofcfjaaGreatDoor
namespace Rows

/-- THE TIED CARD OF 'bitexttop.TopIndex'. -/
def topIndexCard : Claim7 := { stood := { row := topIndexRow, standIns := [], harness := (true, "f8a94fb9fb5d521002cad5cf1ce359601fde751ed73ae35be4d7ead11b0817a3"), looks := true }, kinds := [], alts := [], laidByText := true, laidKinds := [.data, .data, .data, .data, .pinned], laidTests := true, laidLooks := .later }
def TopIndexCardSaid : Prop := Claim7.holds Tryz.pinned (.plain (OpenSpec.ofChange topIndexSpec)) topIndexCard

/-- THE SECOND FORM's CARD OF 'bitexttop.TopIndex'. -/
def topIndexUptoCard : Claim7 := { stood := { row := topIndexUptoRow, standIns := [], harness := (true, "f8a94fb9fb5d521002cad5cf1ce359601fde751ed73ae35be4d7ead11b0817a3"), looks := true }, kinds := [], alts := [], laidByText := true, laidKinds := [.data, .data, .data, .data, .pinned], laidTests := true, laidLooks := .later }
def TopIndexUptoCardSaid : Prop := Claim7.holds Tryz.pinned (.plain (OpenSpec.upto topIndexSpec)) topIndexUptoCard
end Rows
end Go.Proofs.YtbgmlpbgofcfjaaGreatDoor
