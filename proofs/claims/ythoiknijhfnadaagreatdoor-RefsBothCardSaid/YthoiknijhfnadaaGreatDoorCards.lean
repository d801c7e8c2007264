/-
  DERIVED. GIVEN WITH THE SEED: THE CARDS: each row of YthoiknijhfnadaaGreatDoorRows.lean that lists a variable, with what it lists TIED to the program's text (the seventh form; the later family's looks); each row that meets fmt, with fmt's text TOLD by the authors' own Lean function (tested against real Go, not proved from fmt's source: count such statements apart). THE CARD IS WHAT COUNTS. Prove the row's statement (the work); the ties are given (YthoiknijhfnadaaGreatDoorTie.lean); close each card by the builder's one call (the guide's Derived/Test/ToyasCard.lean, 'card_holds'). Laid BY PROGRAM, IN A SANDBOX (cutbox-door.mjs). By AI agents, Wed Nov 11 2026. No macro, syntax, notation, axiom, sorry.
-/
import Derived.Test.YthoiknijhfnadaaGreatDoorRows
import GoSem.ClaimSeven
namespace Go.Proofs.YthoiknijhfnadaaGreatDoor
namespace Rows

/-- THE TIED CARD OF 'millpondlaw23.RefsTie'. -/
def refsTieCard : Claim7 := { stood := { row := refsTieRow, standIns := [], harness := (true, "47b3c8a216a7e3536c9df9d830d085dd06242267710bc63e325273bc846a4359"), looks := false }, kinds := [], alts := [], laidByText := true, laidKinds := [.data, .data], laidTests := true, laidLooks := .later }
def RefsTieCardSaid : Prop := Claim7.holds Tryz.pinned (.plain (OpenSpec.ofChange refsTieSpec)) refsTieCard

/-- THE TIED CARD OF 'millpondlaw23.RefsPlay'. -/
def refsPlayCard : Claim7 := { stood := { row := refsPlayRow, standIns := [], harness := (true, "47b3c8a216a7e3536c9df9d830d085dd06242267710bc63e325273bc846a4359"), looks := false }, kinds := [], alts := [], laidByText := true, laidKinds := [.data, .data], laidTests := true, laidLooks := .later }
def RefsPlayCardSaid : Prop := Claim7.holds Tryz.pinned (.plain (OpenSpec.ofChange refsPlaySpec)) refsPlayCard

/-- THE TIED CARD OF 'millpondlaw23.RefsBoth'. -/
def refsBothCard : Claim7 := { stood := { row := refsBothRow, standIns := [], harness := (true, "47b3c8a216a7e3536c9df9d830d085dd06242267710bc63e325273bc846a4359"), looks := false }, kinds := [], alts := [], laidByText := true, laidKinds := [.data, .data], laidTests := true, laidLooks := .later }
def RefsBothCardSaid : Prop := Claim7.holds Tryz.pinned (.plain (OpenSpec.ofChange refsBothSpec)) refsBothCard

/-- THE SECOND FORM's CARD OF 'millpondlaw23.RefsTie'. -/
def refsTieUptoCard : Claim7 := { stood := { row := refsTieUptoRow, standIns := [], harness := (true, "47b3c8a216a7e3536c9df9d830d085dd06242267710bc63e325273bc846a4359"), looks := false }, kinds := [], alts := [], laidByText := true, laidKinds := [.data, .data], laidTests := true, laidLooks := .later }
def RefsTieUptoCardSaid : Prop := Claim7.holds Tryz.pinned (.plain (OpenSpec.upto refsTieSpec)) refsTieUptoCard

/-- THE SECOND FORM's CARD OF 'millpondlaw23.RefsPlay'. -/
def refsPlayUptoCard : Claim7 := { stood := { row := refsPlayUptoRow, standIns := [], harness := (true, "47b3c8a216a7e3536c9df9d830d085dd06242267710bc63e325273bc846a4359"), looks := false }, kinds := [], alts := [], laidByText := true, laidKinds := [.data, .data], laidTests := true, laidLooks := .later }
def RefsPlayUptoCardSaid : Prop := Claim7.holds Tryz.pinned (.plain (OpenSpec.upto refsPlaySpec)) refsPlayUptoCard

/-- THE SECOND FORM's CARD OF 'millpondlaw23.RefsBoth'. -/
def refsBothUptoCard : Claim7 := { stood := { row := refsBothUptoRow, standIns := [], harness := (true, "47b3c8a216a7e3536c9df9d830d085dd06242267710bc63e325273bc846a4359"), looks := false }, kinds := [], alts := [], laidByText := true, laidKinds := [.data, .data], laidTests := true, laidLooks := .later }
def RefsBothUptoCardSaid : Prop := Claim7.holds Tryz.pinned (.plain (OpenSpec.upto refsBothSpec)) refsBothUptoCard
end Rows
end Go.Proofs.YthoiknijhfnadaaGreatDoor
