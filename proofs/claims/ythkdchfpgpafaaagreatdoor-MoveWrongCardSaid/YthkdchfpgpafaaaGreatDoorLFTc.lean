/- Closed facts of what MoveWrong reaches, each by itself. -/
import Derived.Test.YthkdchfpgpafaaaGreatDoorFacts
namespace Go.Proofs.YthkdchfpgpafaaaGreatDoor.moveWrong
open Go
theorem named:Tryz.prog.varsNamed 3=Rows.moveWrongRow.named:=by kernel_rfl
end Go.Proofs.YthkdchfpgpafaaaGreatDoor.moveWrong
