/- Closed facts of what TearNone reaches, each by itself. -/
import Derived.Test.YtnpmgkccfknlkaaGreatDoorFacts
namespace Go.Proofs.YtnpmgkccfknlkaaGreatDoor.tearNone
open Go
theorem goes : Rows.tearNoneRow.goesBy Tryz.prog = false := by kernel_rfl
end Go.Proofs.YtnpmgkccfknlkaaGreatDoor.tearNone
