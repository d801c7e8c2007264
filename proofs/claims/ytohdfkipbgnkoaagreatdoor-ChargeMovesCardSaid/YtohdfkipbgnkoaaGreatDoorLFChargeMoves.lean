/- Closed facts of what ChargeMoves reaches, each by itself. -/
import Derived.Test.YtohdfkipbgnkoaaGreatDoorKSf
namespace Go.Proofs.YtohdfkipbgnkoaaGreatDoor.chargeMoves
open Go
theorem in_place:Tryz.prog.inPlace 3=Rows.chargeMovesRow.inPlace:=by kernel_rfl
theorem unfollowed:Tryz.prog.unfollowed 3=true:=by kernel_rfl
theorem recurses:Tryz.prog.recurses 3=true:=by
 unfold Program.recurses;rw[unfollowed];rfl
theorem named:Tryz.prog.varsNamed 3=Rows.chargeMovesRow.named:=by kernel_rfl
theorem goes:Rows.chargeMovesRow.goesBy Tryz.prog=false:=by kernel_rfl
end Go.Proofs.YtohdfkipbgnkoaaGreatDoor.chargeMoves
