/-
  DERIVED. GIVEN WITH THE SEED: THE CARDS: each row of YtodcomgkpifpfaaGreatDoorRows.lean that lists a variable, with what it lists TIED to the program's text (the seventh form; the later family's looks); each row that meets fmt, with fmt's text TOLD by the authors' own Lean function (tested against real Go, not proved from fmt's source: count such statements apart). THE CARD IS WHAT COUNTS. Prove the row's statement (the work); the ties are given (YtodcomgkpifpfaaGreatDoorTie.lean); close each card by the builder's one call (the guide's Derived/Test/ToyasCard.lean, 'card_holds'). Laid BY PROGRAM, IN A SANDBOX (cutbox-door.mjs). By AI agents, Wed Nov 11 2026. No macro, syntax, notation, axiom, sorry.
-/
import Derived.Test.YtodcomgkpifpfaaGreatDoorRows
import GoSem.ClaimSeven
namespace Go.Proofs.YtodcomgkpifpfaaGreatDoor
namespace Rows

/-- THE TIED CARD OF 'millpondlaw19.TreeOnce'. -/
def treeOnceCard : Claim7 := { stood := { row := treeOnceRow, standIns := [], harness := (true, "155d46dd4679d848bbd4f41b1d401d46c7260a9225b1dcd084d2c2481f4e9d30"), looks := false }, kinds := [], alts := [], laidByText := true, laidKinds := [.data, .data], laidTests := true, laidLooks := .later }
def TreeOnceCardSaid : Prop := Claim7.holds Tryz.pinned (.plain (OpenSpec.ofChange treeOnceSpec)) treeOnceCard

/-- THE TIED CARD OF 'millpondlaw19.TreePlays'. -/
def treePlaysCard : Claim7 := { stood := { row := treePlaysRow, standIns := [], harness := (true, "155d46dd4679d848bbd4f41b1d401d46c7260a9225b1dcd084d2c2481f4e9d30"), looks := false }, kinds := [], alts := [], laidByText := true, laidKinds := [.data, .data], laidTests := true, laidLooks := .later }
def TreePlaysCardSaid : Prop := Claim7.holds Tryz.pinned (.plain (OpenSpec.ofChange treePlaysSpec)) treePlaysCard

/-- THE SECOND FORM's CARD OF 'millpondlaw19.TreeOnce'. -/
def treeOnceUptoCard : Claim7 := { stood := { row := treeOnceUptoRow, standIns := [], harness := (true, "155d46dd4679d848bbd4f41b1d401d46c7260a9225b1dcd084d2c2481f4e9d30"), looks := false }, kinds := [], alts := [], laidByText := true, laidKinds := [.data, .data], laidTests := true, laidLooks := .later }
def TreeOnceUptoCardSaid : Prop := Claim7.holds Tryz.pinned (.plain (OpenSpec.upto treeOnceSpec)) treeOnceUptoCard

/-- THE SECOND FORM's CARD OF 'millpondlaw19.TreePlays'. -/
def treePlaysUptoCard : Claim7 := { stood := { row := treePlaysUptoRow, standIns := [], harness := (true, "155d46dd4679d848bbd4f41b1d401d46c7260a9225b1dcd084d2c2481f4e9d30"), looks := false }, kinds := [], alts := [], laidByText := true, laidKinds := [.data, .data], laidTests := true, laidLooks := .later }
def TreePlaysUptoCardSaid : Prop := Claim7.holds Tryz.pinned (.plain (OpenSpec.upto treePlaysSpec)) treePlaysUptoCard
end Rows
end Go.Proofs.YtodcomgkpifpfaaGreatDoor
