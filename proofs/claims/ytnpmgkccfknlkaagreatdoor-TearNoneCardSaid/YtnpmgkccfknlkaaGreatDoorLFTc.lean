/- Closed facts of what TearNone reaches, each by itself. -/
import Derived.Test.YtnpmgkccfknlkaaGreatDoorFacts
namespace Go.Proofs.YtnpmgkccfknlkaaGreatDoor.tearNone
open Go
theorem named : Tryz.prog.varsNamed 3 = Rows.tearNoneRow.named := by kernel_rfl
end Go.Proofs.YtnpmgkccfknlkaaGreatDoor.tearNone
