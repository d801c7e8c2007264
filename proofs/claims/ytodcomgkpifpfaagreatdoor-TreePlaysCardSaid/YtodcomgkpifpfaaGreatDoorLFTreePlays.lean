/- Closed facts of what TreePlays reaches, each by itself. -/
import Derived.Test.YtodcomgkpifpfaaGreatDoorKSf
namespace Go.Proofs.YtodcomgkpifpfaaGreatDoor.treePlays
open Go
theorem in_place:Tryz.prog.inPlace 4=Rows.treePlaysRow.inPlace:=by kernel_rfl
theorem unfollowed:Tryz.prog.unfollowed 4=true:=by kernel_rfl
theorem recurses:Tryz.prog.recurses 4=true:=by
 unfold Program.recurses
 rw[unfollowed];rfl
theorem named:Tryz.prog.varsNamed 4=Rows.treePlaysRow.named:=by kernel_rfl
theorem goes:Rows.treePlaysRow.goesBy Tryz.prog=false:=by kernel_rfl
end Go.Proofs.YtodcomgkpifpfaaGreatDoor.treePlays
