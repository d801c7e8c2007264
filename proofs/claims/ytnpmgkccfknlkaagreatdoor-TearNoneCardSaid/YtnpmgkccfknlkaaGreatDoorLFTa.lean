/- Closed facts of what TearNone reaches, each by itself. -/
import Derived.Test.YtnpmgkccfknlkaaGreatDoorFacts
namespace Go.Proofs.YtnpmgkccfknlkaaGreatDoor.tearNone
open Go
theorem in_place : Tryz.prog.inPlace 3 = Rows.tearNoneRow.inPlace := by kernel_rfl
end Go.Proofs.YtnpmgkccfknlkaaGreatDoor.tearNone
