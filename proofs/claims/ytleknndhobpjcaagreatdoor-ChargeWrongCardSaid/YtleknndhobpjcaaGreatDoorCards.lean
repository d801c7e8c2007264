/-
  DERIVED. GIVEN WITH THE SEED: THE CARDS: each row of YtleknndhobpjcaaGreatDoorRows.lean that lists a variable, with what it lists TIED to the program's text (the seventh form; the later family's looks); each row that meets fmt, with fmt's text TOLD by the authors' own Lean function (tested against real Go, not proved from fmt's source: count such statements apart). THE CARD IS WHAT COUNTS. Prove the row's statement (the work); the ties are given (YtleknndhobpjcaaGreatDoorTie.lean); close each card by the builder's one call (the guide's Derived/Test/ToyasCard.lean, 'card_holds'). Laid BY PROGRAM, IN A SANDBOX (cutbox-door.mjs). By AI agents, Wed Nov 11 2026. No macro, syntax, notation, axiom, sorry.
-/
import Derived.Test.YtleknndhobpjcaaGreatDoorRows
import GoSem.ClaimSeven
namespace Go.Proofs.YtleknndhobpjcaaGreatDoor
namespace Rows

/-- THE TIED CARD OF 'millpondlaw15.RegionNone'. -/
def regionNoneCard : Claim7 := { stood := { row := regionNoneRow, standIns := [], harness := (true, "187d9c5b105f0fdb3d16eb8187d0b64831bb18f508e4950a86277a28422abef7"), looks := false }, kinds := [], alts := [], laidByText := true, laidKinds := [.data, .data], laidTests := true, laidLooks := .later }
def RegionNoneCardSaid : Prop := Claim7.holds Tryz.pinned (.plain (OpenSpec.ofChange regionNoneSpec)) regionNoneCard

/-- THE TIED CARD OF 'millpondlaw16.GrowNone'. -/
def growNoneCard : Claim7 := { stood := { row := growNoneRow, standIns := [], harness := (true, "187d9c5b105f0fdb3d16eb8187d0b64831bb18f508e4950a86277a28422abef7"), looks := false }, kinds := [], alts := [], laidByText := true, laidKinds := [.data, .data], laidTests := true, laidLooks := .later }
def GrowNoneCardSaid : Prop := Claim7.holds Tryz.pinned (.plain (OpenSpec.ofChange growNoneSpec)) growNoneCard

/-- THE TIED CARD OF 'millpondlaw24.BlockNone'. -/
def blockNoneCard : Claim7 := { stood := { row := blockNoneRow, standIns := [], harness := (true, "187d9c5b105f0fdb3d16eb8187d0b64831bb18f508e4950a86277a28422abef7"), looks := false }, kinds := [], alts := [], laidByText := true, laidKinds := [.data, .data], laidTests := true, laidLooks := .later }
def BlockNoneCardSaid : Prop := Claim7.holds Tryz.pinned (.plain (OpenSpec.ofChange blockNoneSpec)) blockNoneCard

/-- THE TIED CARD OF 'millpondlaw23.RefsNone'. -/
def refsNoneCard : Claim7 := { stood := { row := refsNoneRow, standIns := [], harness := (true, "187d9c5b105f0fdb3d16eb8187d0b64831bb18f508e4950a86277a28422abef7"), looks := false }, kinds := [], alts := [], laidByText := true, laidKinds := [.data, .data], laidTests := true, laidLooks := .later }
def RefsNoneCardSaid : Prop := Claim7.holds Tryz.pinned (.plain (OpenSpec.ofChange refsNoneSpec)) refsNoneCard

/-- THE TIED CARD OF 'millpondlaw19.TreeWrong'. -/
def treeWrongCard : Claim7 := { stood := { row := treeWrongRow, standIns := [], harness := (true, "187d9c5b105f0fdb3d16eb8187d0b64831bb18f508e4950a86277a28422abef7"), looks := false }, kinds := [], alts := [], laidByText := true, laidKinds := [.data, .data], laidTests := true, laidLooks := .later }
def TreeWrongCardSaid : Prop := Claim7.holds Tryz.pinned (.plain (OpenSpec.ofChange treeWrongSpec)) treeWrongCard

/-- THE TIED CARD OF 'millpondlaw20.ChargeWrong'. -/
def chargeWrongCard : Claim7 := { stood := { row := chargeWrongRow, standIns := [], harness := (true, "187d9c5b105f0fdb3d16eb8187d0b64831bb18f508e4950a86277a28422abef7"), looks := false }, kinds := [], alts := [], laidByText := true, laidKinds := [.data, .data], laidTests := true, laidLooks := .later }
def ChargeWrongCardSaid : Prop := Claim7.holds Tryz.pinned (.plain (OpenSpec.ofChange chargeWrongSpec)) chargeWrongCard

/-- THE TIED CARD OF 'millpondlaw23.RefsPlay'. -/
def refsPlayCard : Claim7 := { stood := { row := refsPlayRow, standIns := [], harness := (true, "187d9c5b105f0fdb3d16eb8187d0b64831bb18f508e4950a86277a28422abef7"), looks := false }, kinds := [], alts := [], laidByText := true, laidKinds := [.data, .data], laidTests := true, laidLooks := .later }
def RefsPlayCardSaid : Prop := Claim7.holds Tryz.pinned (.plain (OpenSpec.ofChange refsPlaySpec)) refsPlayCard

/-- THE TIED CARD OF 'millpondlaw19.TreeOnce'. -/
def treeOnceCard : Claim7 := { stood := { row := treeOnceRow, standIns := [], harness := (true, "187d9c5b105f0fdb3d16eb8187d0b64831bb18f508e4950a86277a28422abef7"), looks := false }, kinds := [], alts := [], laidByText := true, laidKinds := [.data, .data], laidTests := true, laidLooks := .later }
def TreeOnceCardSaid : Prop := Claim7.holds Tryz.pinned (.plain (OpenSpec.ofChange treeOnceSpec)) treeOnceCard

/-- THE TIED CARD OF 'millpondlaw19.TreePlays'. -/
def treePlaysCard : Claim7 := { stood := { row := treePlaysRow, standIns := [], harness := (true, "187d9c5b105f0fdb3d16eb8187d0b64831bb18f508e4950a86277a28422abef7"), looks := false }, kinds := [], alts := [], laidByText := true, laidKinds := [.data, .data], laidTests := true, laidLooks := .later }
def TreePlaysCardSaid : Prop := Claim7.holds Tryz.pinned (.plain (OpenSpec.ofChange treePlaysSpec)) treePlaysCard

/-- THE TIED CARD OF 'millpondlaw20.ChargeMoves'. -/
def chargeMovesCard : Claim7 := { stood := { row := chargeMovesRow, standIns := [], harness := (true, "187d9c5b105f0fdb3d16eb8187d0b64831bb18f508e4950a86277a28422abef7"), looks := false }, kinds := [], alts := [], laidByText := true, laidKinds := [.data, .data], laidTests := true, laidLooks := .later }
def ChargeMovesCardSaid : Prop := Claim7.holds Tryz.pinned (.plain (OpenSpec.ofChange chargeMovesSpec)) chargeMovesCard

/-- THE TIED CARD OF 'millpondlaw23.RefsTie'. -/
def refsTieCard : Claim7 := { stood := { row := refsTieRow, standIns := [], harness := (true, "187d9c5b105f0fdb3d16eb8187d0b64831bb18f508e4950a86277a28422abef7"), looks := false }, kinds := [], alts := [], laidByText := true, laidKinds := [.data, .data], laidTests := true, laidLooks := .later }
def RefsTieCardSaid : Prop := Claim7.holds Tryz.pinned (.plain (OpenSpec.ofChange refsTieSpec)) refsTieCard

/-- THE TIED CARD OF 'millpondlaw23.RefsBoth'. -/
def refsBothCard : Claim7 := { stood := { row := refsBothRow, standIns := [], harness := (true, "187d9c5b105f0fdb3d16eb8187d0b64831bb18f508e4950a86277a28422abef7"), looks := false }, kinds := [], alts := [], laidByText := true, laidKinds := [.data, .data], laidTests := true, laidLooks := .later }
def RefsBothCardSaid : Prop := Claim7.holds Tryz.pinned (.plain (OpenSpec.ofChange refsBothSpec)) refsBothCard

/-- THE SECOND FORM's CARD OF 'millpondlaw15.RegionNone'. -/
def regionNoneUptoCard : Claim7 := { stood := { row := regionNoneUptoRow, standIns := [], harness := (true, "187d9c5b105f0fdb3d16eb8187d0b64831bb18f508e4950a86277a28422abef7"), looks := false }, kinds := [], alts := [], laidByText := true, laidKinds := [.data, .data], laidTests := true, laidLooks := .later }
def RegionNoneUptoCardSaid : Prop := Claim7.holds Tryz.pinned (.plain (OpenSpec.upto regionNoneSpec)) regionNoneUptoCard

/-- THE SECOND FORM's CARD OF 'millpondlaw16.GrowNone'. -/
def growNoneUptoCard : Claim7 := { stood := { row := growNoneUptoRow, standIns := [], harness := (true, "187d9c5b105f0fdb3d16eb8187d0b64831bb18f508e4950a86277a28422abef7"), looks := false }, kinds := [], alts := [], laidByText := true, laidKinds := [.data, .data], laidTests := true, laidLooks := .later }
def GrowNoneUptoCardSaid : Prop := Claim7.holds Tryz.pinned (.plain (OpenSpec.upto growNoneSpec)) growNoneUptoCard

/-- THE SECOND FORM's CARD OF 'millpondlaw24.BlockNone'. -/
def blockNoneUptoCard : Claim7 := { stood := { row := blockNoneUptoRow, standIns := [], harness := (true, "187d9c5b105f0fdb3d16eb8187d0b64831bb18f508e4950a86277a28422abef7"), looks := false }, kinds := [], alts := [], laidByText := true, laidKinds := [.data, .data], laidTests := true, laidLooks := .later }
def BlockNoneUptoCardSaid : Prop := Claim7.holds Tryz.pinned (.plain (OpenSpec.upto blockNoneSpec)) blockNoneUptoCard

/-- THE SECOND FORM's CARD OF 'millpondlaw23.RefsNone'. -/
def refsNoneUptoCard : Claim7 := { stood := { row := refsNoneUptoRow, standIns := [], harness := (true, "187d9c5b105f0fdb3d16eb8187d0b64831bb18f508e4950a86277a28422abef7"), looks := false }, kinds := [], alts := [], laidByText := true, laidKinds := [.data, .data], laidTests := true, laidLooks := .later }
def RefsNoneUptoCardSaid : Prop := Claim7.holds Tryz.pinned (.plain (OpenSpec.upto refsNoneSpec)) refsNoneUptoCard

/-- THE SECOND FORM's CARD OF 'millpondlaw19.TreeWrong'. -/
def treeWrongUptoCard : Claim7 := { stood := { row := treeWrongUptoRow, standIns := [], harness := (true, "187d9c5b105f0fdb3d16eb8187d0b64831bb18f508e4950a86277a28422abef7"), looks := false }, kinds := [], alts := [], laidByText := true, laidKinds := [.data, .data], laidTests := true, laidLooks := .later }
def TreeWrongUptoCardSaid : Prop := Claim7.holds Tryz.pinned (.plain (OpenSpec.upto treeWrongSpec)) treeWrongUptoCard

/-- THE SECOND FORM's CARD OF 'millpondlaw20.ChargeWrong'. -/
def chargeWrongUptoCard : Claim7 := { stood := { row := chargeWrongUptoRow, standIns := [], harness := (true, "187d9c5b105f0fdb3d16eb8187d0b64831bb18f508e4950a86277a28422abef7"), looks := false }, kinds := [], alts := [], laidByText := true, laidKinds := [.data, .data], laidTests := true, laidLooks := .later }
def ChargeWrongUptoCardSaid : Prop := Claim7.holds Tryz.pinned (.plain (OpenSpec.upto chargeWrongSpec)) chargeWrongUptoCard

/-- THE SECOND FORM's CARD OF 'millpondlaw23.RefsPlay'. -/
def refsPlayUptoCard : Claim7 := { stood := { row := refsPlayUptoRow, standIns := [], harness := (true, "187d9c5b105f0fdb3d16eb8187d0b64831bb18f508e4950a86277a28422abef7"), looks := false }, kinds := [], alts := [], laidByText := true, laidKinds := [.data, .data], laidTests := true, laidLooks := .later }
def RefsPlayUptoCardSaid : Prop := Claim7.holds Tryz.pinned (.plain (OpenSpec.upto refsPlaySpec)) refsPlayUptoCard

/-- THE SECOND FORM's CARD OF 'millpondlaw19.TreeOnce'. -/
def treeOnceUptoCard : Claim7 := { stood := { row := treeOnceUptoRow, standIns := [], harness := (true, "187d9c5b105f0fdb3d16eb8187d0b64831bb18f508e4950a86277a28422abef7"), looks := false }, kinds := [], alts := [], laidByText := true, laidKinds := [.data, .data], laidTests := true, laidLooks := .later }
def TreeOnceUptoCardSaid : Prop := Claim7.holds Tryz.pinned (.plain (OpenSpec.upto treeOnceSpec)) treeOnceUptoCard

/-- THE SECOND FORM's CARD OF 'millpondlaw19.TreePlays'. -/
def treePlaysUptoCard : Claim7 := { stood := { row := treePlaysUptoRow, standIns := [], harness := (true, "187d9c5b105f0fdb3d16eb8187d0b64831bb18f508e4950a86277a28422abef7"), looks := false }, kinds := [], alts := [], laidByText := true, laidKinds := [.data, .data], laidTests := true, laidLooks := .later }
def TreePlaysUptoCardSaid : Prop := Claim7.holds Tryz.pinned (.plain (OpenSpec.upto treePlaysSpec)) treePlaysUptoCard

/-- THE SECOND FORM's CARD OF 'millpondlaw20.ChargeMoves'. -/
def chargeMovesUptoCard : Claim7 := { stood := { row := chargeMovesUptoRow, standIns := [], harness := (true, "187d9c5b105f0fdb3d16eb8187d0b64831bb18f508e4950a86277a28422abef7"), looks := false }, kinds := [], alts := [], laidByText := true, laidKinds := [.data, .data], laidTests := true, laidLooks := .later }
def ChargeMovesUptoCardSaid : Prop := Claim7.holds Tryz.pinned (.plain (OpenSpec.upto chargeMovesSpec)) chargeMovesUptoCard

/-- THE SECOND FORM's CARD OF 'millpondlaw23.RefsTie'. -/
def refsTieUptoCard : Claim7 := { stood := { row := refsTieUptoRow, standIns := [], harness := (true, "187d9c5b105f0fdb3d16eb8187d0b64831bb18f508e4950a86277a28422abef7"), looks := false }, kinds := [], alts := [], laidByText := true, laidKinds := [.data, .data], laidTests := true, laidLooks := .later }
def RefsTieUptoCardSaid : Prop := Claim7.holds Tryz.pinned (.plain (OpenSpec.upto refsTieSpec)) refsTieUptoCard

/-- THE SECOND FORM's CARD OF 'millpondlaw23.RefsBoth'. -/
def refsBothUptoCard : Claim7 := { stood := { row := refsBothUptoRow, standIns := [], harness := (true, "187d9c5b105f0fdb3d16eb8187d0b64831bb18f508e4950a86277a28422abef7"), looks := false }, kinds := [], alts := [], laidByText := true, laidKinds := [.data, .data], laidTests := true, laidLooks := .later }
def RefsBothUptoCardSaid : Prop := Claim7.holds Tryz.pinned (.plain (OpenSpec.upto refsBothSpec)) refsBothUptoCard
end Rows
end Go.Proofs.YtleknndhobpjcaaGreatDoor
