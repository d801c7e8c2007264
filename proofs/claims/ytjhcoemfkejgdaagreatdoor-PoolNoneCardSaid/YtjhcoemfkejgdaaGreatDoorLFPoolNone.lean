/- Closed facts of what PoolNone reaches, each by itself. -/
import Derived.Test.YtjhcoemfkejgdaaGreatDoorFacts
namespace Go.Proofs.YtjhcoemfkejgdaaGreatDoor.poolNone
open Go
theorem in_place : Tryz.prog.inPlace 4 = Rows.poolNoneRow.inPlace := by kernel_rfl
theorem unfollowed : Tryz.prog.unfollowed 4 = true := by kernel_rfl
theorem recurses : Tryz.prog.recurses 4 = true := by
  unfold Program.recurses
  rw [unfollowed]; rfl
theorem named : Tryz.prog.varsNamed 4 = Rows.poolNoneRow.named := by kernel_rfl
theorem goes : Rows.poolNoneRow.goesBy Tryz.prog = false := by kernel_rfl
end Go.Proofs.YtjhcoemfkejgdaaGreatDoor.poolNone
