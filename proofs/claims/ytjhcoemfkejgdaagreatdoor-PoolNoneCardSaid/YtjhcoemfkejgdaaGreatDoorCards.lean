/-
  DERIVED. GIVEN WITH THE SEED: THE CARDS: each row of YtjhcoemfkejgdaaGreatDoorRows.lean that lists a variable, with what it lists TIED to the program's text (the seventh form; the later family's looks); each row that meets fmt, with fmt's text TOLD by the authors' own Lean function (tested against real Go, not proved from fmt's source: count such statements apart). THE CARD IS WHAT COUNTS. Prove the row's statement (the work); the ties are given (YtjhcoemfkejgdaaGreatDoorTie.lean); close each card by the builder's one call (the guide's Derived/Test/ToyasCard.lean, 'card_holds'). Laid BY PROGRAM, IN A SANDBOX (cutbox-door.mjs). By AI agents, Wed Nov 11 2026. No macro, syntax, notation, axiom, sorry.
-/
import Derived.Test.YtjhcoemfkejgdaaGreatDoorRows
import GoSem.ClaimSeven
namespace Go.Proofs.YtjhcoemfkejgdaaGreatDoor
namespace Rows

/-- THE TIED CARD OF 'millpondlaw26.KeepNone'. -/
def keepNoneCard : Claim7 := { stood := { row := keepNoneRow, standIns := [], harness := (true, "a279041b00c325f03f9d95ca2d0a3d07e93ba6001c739fda69d43cae56c493d2"), looks := false }, kinds := [], alts := [], laidByText := true, laidKinds := [.data, .data], laidTests := true, laidLooks := .later }
def KeepNoneCardSaid : Prop := Claim7.holds Tryz.pinned (.plain (OpenSpec.ofChange keepNoneSpec)) keepNoneCard

/-- THE TIED CARD OF 'millpondlaw25.PoolNone'. -/
def poolNoneCard : Claim7 := { stood := { row := poolNoneRow, standIns := [], harness := (true, "a279041b00c325f03f9d95ca2d0a3d07e93ba6001c739fda69d43cae56c493d2"), looks := false }, kinds := [], alts := [], laidByText := true, laidKinds := [.data, .data], laidTests := true, laidLooks := .later }
def PoolNoneCardSaid : Prop := Claim7.holds Tryz.pinned (.plain (OpenSpec.ofChange poolNoneSpec)) poolNoneCard

/-- THE SECOND FORM's CARD OF 'millpondlaw26.KeepNone'. -/
def keepNoneUptoCard : Claim7 := { stood := { row := keepNoneUptoRow, standIns := [], harness := (true, "a279041b00c325f03f9d95ca2d0a3d07e93ba6001c739fda69d43cae56c493d2"), looks := false }, kinds := [], alts := [], laidByText := true, laidKinds := [.data, .data], laidTests := true, laidLooks := .later }
def KeepNoneUptoCardSaid : Prop := Claim7.holds Tryz.pinned (.plain (OpenSpec.upto keepNoneSpec)) keepNoneUptoCard

/-- THE SECOND FORM's CARD OF 'millpondlaw25.PoolNone'. -/
def poolNoneUptoCard : Claim7 := { stood := { row := poolNoneUptoRow, standIns := [], harness := (true, "a279041b00c325f03f9d95ca2d0a3d07e93ba6001c739fda69d43cae56c493d2"), looks := false }, kinds := [], alts := [], laidByText := true, laidKinds := [.data, .data], laidTests := true, laidLooks := .later }
def PoolNoneUptoCardSaid : Prop := Claim7.holds Tryz.pinned (.plain (OpenSpec.upto poolNoneSpec)) poolNoneUptoCard
end Rows
end Go.Proofs.YtjhcoemfkejgdaaGreatDoor
