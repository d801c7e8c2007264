/- Closed facts of what GrowNone reaches, each by itself. -/
import Derived.Test.YtleknndhobpjcaaGreatDoorFacts
namespace Go.Proofs.YtleknndhobpjcaaGreatDoor.growNone
open Go
theorem in_place : Tryz.prog.inPlace 4 = Rows.growNoneRow.inPlace := by kernel_rfl
theorem unfollowed : Tryz.prog.unfollowed 4 = true := by kernel_rfl
theorem recurses : Tryz.prog.recurses 4 = true := by
  unfold Program.recurses
  rw [unfollowed]; rfl
theorem named : Tryz.prog.varsNamed 4 = Rows.growNoneRow.named := by kernel_rfl
theorem goes : Rows.growNoneRow.goesBy Tryz.prog = false := by kernel_rfl
end Go.Proofs.YtleknndhobpjcaaGreatDoor.growNone
