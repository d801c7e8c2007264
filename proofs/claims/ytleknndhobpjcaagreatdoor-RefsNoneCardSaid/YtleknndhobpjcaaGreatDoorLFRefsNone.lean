/- Closed facts of what RefsNone reaches, each by itself. -/
import Derived.Test.YtleknndhobpjcaaGreatDoorFacts
namespace Go.Proofs.YtleknndhobpjcaaGreatDoor.refsNone
open Go
theorem in_place : Tryz.prog.inPlace 6 = Rows.refsNoneRow.inPlace := by kernel_rfl
theorem unfollowed : Tryz.prog.unfollowed 6 = true := by kernel_rfl
theorem recurses : Tryz.prog.recurses 6 = true := by
  unfold Program.recurses
  rw [unfollowed]; rfl
theorem named : Tryz.prog.varsNamed 6 = Rows.refsNoneRow.named := by kernel_rfl
theorem goes : Rows.refsNoneRow.goesBy Tryz.prog = false := by kernel_rfl
end Go.Proofs.YtleknndhobpjcaaGreatDoor.refsNone
