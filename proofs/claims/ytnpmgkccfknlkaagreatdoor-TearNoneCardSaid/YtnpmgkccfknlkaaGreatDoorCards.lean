/-
  DERIVED. GIVEN WITH THE SEED: THE CARDS: each row of YtnpmgkccfknlkaaGreatDoorRows.lean that lists a variable, with what it lists TIED to the program's text (the seventh form; the later family's looks); each row that meets fmt, with fmt's text TOLD by the authors' own Lean function (tested against real Go, not proved from fmt's source: count such statements apart). THE CARD IS WHAT COUNTS. Prove the row's statement (the work); the ties are given (YtnpmgkccfknlkaaGreatDoorTie.lean); close each card by the builder's one call (the guide's Derived/Test/ToyasCard.lean, 'card_holds'). Laid BY PROGRAM, IN A SANDBOX (cutbox-door.mjs). By AI agents, Wed Nov 11 2026. No macro, syntax, notation, axiom, sorry.
-/
import Derived.Test.YtnpmgkccfknlkaaGreatDoorRows
import GoSem.ClaimSeven
namespace Go.Proofs.YtnpmgkccfknlkaaGreatDoor
namespace Rows

/-- THE TIED CARD OF 'millpondlaw27.TearNone'. -/
def tearNoneCard : Claim7 := { stood := { row := tearNoneRow, standIns := [], harness := (true, "767606910dc35674e783462751e23878e58e0f5605e00aaad7fa6a3710577228"), looks := false }, kinds := [], alts := [], laidByText := true, laidKinds := [.data, .data], laidTests := true, laidLooks := .later }
def TearNoneCardSaid : Prop := Claim7.holds Tryz.pinned (.plain (OpenSpec.ofChange tearNoneSpec)) tearNoneCard

/-- THE SECOND FORM's CARD OF 'millpondlaw27.TearNone'. -/
def tearNoneUptoCard : Claim7 := { stood := { row := tearNoneUptoRow, standIns := [], harness := (true, "767606910dc35674e783462751e23878e58e0f5605e00aaad7fa6a3710577228"), looks := false }, kinds := [], alts := [], laidByText := true, laidKinds := [.data, .data], laidTests := true, laidLooks := .later }
def TearNoneUptoCardSaid : Prop := Claim7.holds Tryz.pinned (.plain (OpenSpec.upto tearNoneSpec)) tearNoneUptoCard
end Rows
end Go.Proofs.YtnpmgkccfknlkaaGreatDoor
