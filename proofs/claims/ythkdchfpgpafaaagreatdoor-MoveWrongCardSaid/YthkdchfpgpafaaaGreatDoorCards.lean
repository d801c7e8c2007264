/-
  DERIVED. GIVEN WITH THE SEED: THE CARDS: each row of YthkdchfpgpafaaaGreatDoorRows.lean that lists a variable, with what it lists TIED to the program's text (the seventh form; the later family's looks); each row that meets fmt, with fmt's text TOLD by the authors' own Lean function (tested against real Go, not proved from fmt's source: count such statements apart). THE CARD IS WHAT COUNTS. Prove the row's statement (the work); the ties are given (YthkdchfpgpafaaaGreatDoorTie.lean); close each card by the builder's one call (the guide's Derived/Test/ToyasCard.lean, 'card_holds'). Laid BY PROGRAM, IN A SANDBOX (cutbox-door.mjs). By AI agents, Wed Nov 11 2026. No macro, syntax, notation, axiom, sorry.
-/
import Derived.Test.YthkdchfpgpafaaaGreatDoorRows
import GoSem.ClaimSeven
namespace Go.Proofs.YthkdchfpgpafaaaGreatDoor
namespace Rows

/-- THE TIED CARD OF 'millpondlaw28.MoveWrong'. -/
def moveWrongCard : Claim7 := { stood := { row := moveWrongRow, standIns := [], harness := (true, "8a90fc3ea6102da1fa5c00dc62041b00426050b860ce70301388119c44c75143"), looks := false }, kinds := [], alts := [], laidByText := true, laidKinds := [.data, .data], laidTests := true, laidLooks := .later }
def MoveWrongCardSaid : Prop := Claim7.holds Tryz.pinned (.plain (OpenSpec.ofChange moveWrongSpec)) moveWrongCard

/-- THE SECOND FORM's CARD OF 'millpondlaw28.MoveWrong'. -/
def moveWrongUptoCard : Claim7 := { stood := { row := moveWrongUptoRow, standIns := [], harness := (true, "8a90fc3ea6102da1fa5c00dc62041b00426050b860ce70301388119c44c75143"), looks := false }, kinds := [], alts := [], laidByText := true, laidKinds := [.data, .data], laidTests := true, laidLooks := .later }
def MoveWrongUptoCardSaid : Prop := Claim7.holds Tryz.pinned (.plain (OpenSpec.upto moveWrongSpec)) moveWrongUptoCard
end Rows
end Go.Proofs.YthkdchfpgpafaaaGreatDoor
