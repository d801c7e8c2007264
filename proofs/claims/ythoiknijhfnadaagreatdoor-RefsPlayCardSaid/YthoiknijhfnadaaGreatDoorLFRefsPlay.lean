/- Closed facts of what RefsPlay reaches, each by itself. -/
import Derived.Test.YthoiknijhfnadaaGreatDoorKSf
namespace Go.Proofs.YthoiknijhfnadaaGreatDoor.refsPlay
open Go
theorem in_place:Tryz.prog.inPlace 4=Rows.refsPlayRow.inPlace:=by kernel_rfl
theorem unfollowed:Tryz.prog.unfollowed 4=true:=by kernel_rfl
theorem recurses:Tryz.prog.recurses 4=true:=by
 unfold Program.recurses
 rw[unfollowed];rfl
theorem named:Tryz.prog.varsNamed 4=Rows.refsPlayRow.named:=by kernel_rfl
theorem goes:Rows.refsPlayRow.goesBy Tryz.prog=false:=by kernel_rfl
end Go.Proofs.YthoiknijhfnadaaGreatDoor.refsPlay
