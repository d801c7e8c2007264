/-
  DERIVED. GIVEN WITH THE SEED: THE CARDS: each row of YtohdfkipbgnkoaaGreatDoorRows.lean that lists a variable, with what it lists TIED to the program's text (the seventh form; the later family's looks); each row that meets fmt, with fmt's text TOLD by the authors' own Lean function (tested against real Go, not proved from fmt's source: count such statements apart). THE CARD IS WHAT COUNTS. Prove the row's statement (the work); the ties are given (YtohdfkipbgnkoaaGreatDoorTie.lean); close each card by the builder's one call (the guide's Derived/Test/ToyasCard.lean, 'card_holds'). Laid BY PROGRAM, IN A SANDBOX (cutbox-door.mjs). By AI agents, Wed Nov 11 2026. No macro, syntax, notation, axiom, sorry.
-/
import Derived.Test.YtohdfkipbgnkoaaGreatDoorRows
import GoSem.ClaimSeven
namespace Go.Proofs.YtohdfkipbgnkoaaGreatDoor
namespace Rows

/-- THE TIED CARD OF 'millpondlaw20.ChargeMoves'. -/
def chargeMovesCard : Claim7 := { stood := { row := chargeMovesRow, standIns := [], harness := (true, "0be7034344d1078f537fd0ce893fcbeeb0dad88bdf67dd7cd358583e90bb2206"), looks := false }, kinds := [], alts := [], laidByText := true, laidKinds := [.data, .data], laidTests := true, laidLooks := .later }
def ChargeMovesCardSaid : Prop := Claim7.holds Tryz.pinned (.plain (OpenSpec.ofChange chargeMovesSpec)) chargeMovesCard

/-- THE SECOND FORM's CARD OF 'millpondlaw20.ChargeMoves'. -/
def chargeMovesUptoCard : Claim7 := { stood := { row := chargeMovesUptoRow, standIns := [], harness := (true, "0be7034344d1078f537fd0ce893fcbeeb0dad88bdf67dd7cd358583e90bb2206"), looks := false }, kinds := [], alts := [], laidByText := true, laidKinds := [.data, .data], laidTests := true, laidLooks := .later }
def ChargeMovesUptoCardSaid : Prop := Claim7.holds Tryz.pinned (.plain (OpenSpec.upto chargeMovesSpec)) chargeMovesUptoCard
end Rows
end Go.Proofs.YtohdfkipbgnkoaaGreatDoor
