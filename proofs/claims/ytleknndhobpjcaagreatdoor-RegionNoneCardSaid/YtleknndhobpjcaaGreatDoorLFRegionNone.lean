/- Closed facts of what RegionNone reaches, each by itself. -/
import Derived.Test.YtleknndhobpjcaaGreatDoorFacts
namespace Go.Proofs.YtleknndhobpjcaaGreatDoor.regionNone
open Go
theorem in_place : Tryz.prog.inPlace 3 = Rows.regionNoneRow.inPlace := by kernel_rfl
theorem unfollowed : Tryz.prog.unfollowed 3 = true := by kernel_rfl
theorem recurses : Tryz.prog.recurses 3 = true := by
  unfold Program.recurses
  rw [unfollowed]; rfl
theorem named : Tryz.prog.varsNamed 3 = Rows.regionNoneRow.named := by kernel_rfl
theorem goes : Rows.regionNoneRow.goesBy Tryz.prog = false := by kernel_rfl
end Go.Proofs.YtleknndhobpjcaaGreatDoor.regionNone
