/- Closed facts of what TearNone reaches, each by itself. -/
import Derived.Test.YtnpmgkccfknlkaaGreatDoorFacts
namespace Go.Proofs.YtnpmgkccfknlkaaGreatDoor.tearNone
open Go
theorem unfollowed : Tryz.prog.unfollowed 3 = true := by kernel_rfl
theorem recurses : Tryz.prog.recurses 3 = true := by
  unfold Program.recurses
  rw [unfollowed]; rfl
end Go.Proofs.YtnpmgkccfknlkaaGreatDoor.tearNone
