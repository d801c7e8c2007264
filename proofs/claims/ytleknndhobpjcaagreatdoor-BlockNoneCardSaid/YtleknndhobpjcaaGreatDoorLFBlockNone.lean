/- Closed facts of what BlockNone reaches, each by itself. -/
import Derived.Test.YtleknndhobpjcaaGreatDoorFacts
namespace Go.Proofs.YtleknndhobpjcaaGreatDoor.blockNone
open Go
theorem in_place : Tryz.prog.inPlace 5 = Rows.blockNoneRow.inPlace := by kernel_rfl
theorem unfollowed : Tryz.prog.unfollowed 5 = true := by kernel_rfl
theorem recurses : Tryz.prog.recurses 5 = true := by
  unfold Program.recurses
  rw [unfollowed]; rfl
theorem named : Tryz.prog.varsNamed 5 = Rows.blockNoneRow.named := by kernel_rfl
theorem goes : Rows.blockNoneRow.goesBy Tryz.prog = false := by kernel_rfl
end Go.Proofs.YtleknndhobpjcaaGreatDoor.blockNone
