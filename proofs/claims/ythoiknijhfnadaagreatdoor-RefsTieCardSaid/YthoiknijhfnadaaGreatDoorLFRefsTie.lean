/- Closed facts of what RefsTie reaches, each by itself. -/
import Derived.Test.YthoiknijhfnadaaGreatDoorKSf
namespace Go.Proofs.YthoiknijhfnadaaGreatDoor.refsTie
open Go
theorem in_place:Tryz.prog.inPlace 3=Rows.refsTieRow.inPlace:=by kernel_rfl
theorem unfollowed:Tryz.prog.unfollowed 3=true:=by kernel_rfl
theorem recurses:Tryz.prog.recurses 3=true:=by
 unfold Program.recurses
 rw[unfollowed];rfl
theorem named:Tryz.prog.varsNamed 3=Rows.refsTieRow.named:=by kernel_rfl
theorem goes:Rows.refsTieRow.goesBy Tryz.prog=false:=by kernel_rfl
end Go.Proofs.YthoiknijhfnadaaGreatDoor.refsTie
