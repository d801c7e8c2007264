/- Closed facts of what ChargeWrong reaches, each by itself. -/
import Derived.Test.YtleknndhobpjcaaGreatDoorFacts
namespace Go.Proofs.YtleknndhobpjcaaGreatDoor.chargeWrong
open Go
theorem in_place : Tryz.prog.inPlace 8 = Rows.chargeWrongRow.inPlace := by kernel_rfl
theorem unfollowed : Tryz.prog.unfollowed 8 = true := by kernel_rfl
theorem recurses : Tryz.prog.recurses 8 = true := by
  unfold Program.recurses
  rw [unfollowed]; rfl
theorem named : Tryz.prog.varsNamed 8 = Rows.chargeWrongRow.named := by kernel_rfl
theorem goes : Rows.chargeWrongRow.goesBy Tryz.prog = false := by kernel_rfl
end Go.Proofs.YtleknndhobpjcaaGreatDoor.chargeWrong
