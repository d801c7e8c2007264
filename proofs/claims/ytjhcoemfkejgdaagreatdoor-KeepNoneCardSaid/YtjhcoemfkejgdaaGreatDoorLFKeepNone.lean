/- Closed facts of what KeepNone reaches, each by itself. -/
import Derived.Test.YtjhcoemfkejgdaaGreatDoorFacts
namespace Go.Proofs.YtjhcoemfkejgdaaGreatDoor.keepNone
open Go
theorem in_place : Tryz.prog.inPlace 3 = Rows.keepNoneRow.inPlace := by kernel_rfl
theorem unfollowed : Tryz.prog.unfollowed 3 = true := by kernel_rfl
theorem recurses : Tryz.prog.recurses 3 = true := by
  unfold Program.recurses
  rw [unfollowed]; rfl
theorem named : Tryz.prog.varsNamed 3 = Rows.keepNoneRow.named := by kernel_rfl
theorem goes : Rows.keepNoneRow.goesBy Tryz.prog = false := by kernel_rfl
end Go.Proofs.YtjhcoemfkejgdaaGreatDoor.keepNone
