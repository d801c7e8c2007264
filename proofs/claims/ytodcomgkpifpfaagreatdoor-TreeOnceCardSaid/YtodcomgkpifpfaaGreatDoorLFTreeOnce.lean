/- Closed facts of what TreeOnce reaches, each by itself. -/
import Derived.Test.YtodcomgkpifpfaaGreatDoorFacts
namespace Go.Proofs.YtodcomgkpifpfaaGreatDoor.treeOnce
open Go
theorem in_place:Tryz.prog.inPlace 3=Rows.treeOnceRow.inPlace:=by kernel_rfl
theorem unfollowed:Tryz.prog.unfollowed 3=true:=by kernel_rfl
theorem recurses:Tryz.prog.recurses 3=true:=by
 unfold Program.recurses
 rw [unfollowed]; rfl
theorem named:Tryz.prog.varsNamed 3=Rows.treeOnceRow.named:=by kernel_rfl
theorem goes:Rows.treeOnceRow.goesBy Tryz.prog=false:=by kernel_rfl
end Go.Proofs.YtodcomgkpifpfaaGreatDoor.treeOnce
