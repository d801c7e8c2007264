/- Closed facts of what MoveWrong reaches, each by itself. -/
import Derived.Test.YthkdchfpgpafaaaGreatDoorFacts
namespace Go.Proofs.YthkdchfpgpafaaaGreatDoor.moveWrong
open Go
theorem in_place:Tryz.prog.inPlace 3=Rows.moveWrongRow.inPlace:=by kernel_rfl
end Go.Proofs.YthkdchfpgpafaaaGreatDoor.moveWrong
