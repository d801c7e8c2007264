/- Closed facts of what TreeWrong reaches, each by itself. -/
import Derived.Test.YtleknndhobpjcaaGreatDoorFacts
namespace Go.Proofs.YtleknndhobpjcaaGreatDoor.treeWrong
open Go
theorem in_place : Tryz.prog.inPlace 7 = Rows.treeWrongRow.inPlace := by kernel_rfl
theorem unfollowed : Tryz.prog.unfollowed 7 = true := by kernel_rfl
theorem recurses : Tryz.prog.recurses 7 = true := by
  unfold Program.recurses
  rw [unfollowed]; rfl
theorem named : Tryz.prog.varsNamed 7 = Rows.treeWrongRow.named := by kernel_rfl
theorem goes : Rows.treeWrongRow.goesBy Tryz.prog = false := by kernel_rfl
end Go.Proofs.YtleknndhobpjcaaGreatDoor.treeWrong
