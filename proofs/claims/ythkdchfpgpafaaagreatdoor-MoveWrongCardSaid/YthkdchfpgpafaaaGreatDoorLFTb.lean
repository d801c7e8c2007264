/- Closed facts of what MoveWrong reaches, each by itself. -/
import Derived.Test.YthkdchfpgpafaaaGreatDoorFacts
namespace Go.Proofs.YthkdchfpgpafaaaGreatDoor.moveWrong
open Go
theorem unfollowed:Tryz.prog.unfollowed 3=true:=by kernel_rfl
theorem recurses:Tryz.prog.recurses 3=true:=by
 unfold Program.recurses
 rw [unfollowed]; rfl
end Go.Proofs.YthkdchfpgpafaaaGreatDoor.moveWrong
