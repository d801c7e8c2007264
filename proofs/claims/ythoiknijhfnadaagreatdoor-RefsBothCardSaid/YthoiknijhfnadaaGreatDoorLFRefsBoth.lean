/- Closed facts of what RefsBoth reaches, each by itself. -/
import Derived.Test.YthoiknijhfnadaaGreatDoorKSf
namespace Go.Proofs.YthoiknijhfnadaaGreatDoor.refsBoth
open Go
theorem in_place:Tryz.prog.inPlace 5=Rows.refsBothRow.inPlace:=by kernel_rfl
theorem unfollowed:Tryz.prog.unfollowed 5=true:=by kernel_rfl
theorem recurses:Tryz.prog.recurses 5=true:=by
 unfold Program.recurses
 rw[unfollowed];rfl
theorem named:Tryz.prog.varsNamed 5=Rows.refsBothRow.named:=by kernel_rfl
theorem goes:Rows.refsBothRow.goesBy Tryz.prog=false:=by kernel_rfl
end Go.Proofs.YthoiknijhfnadaaGreatDoor.refsBoth
