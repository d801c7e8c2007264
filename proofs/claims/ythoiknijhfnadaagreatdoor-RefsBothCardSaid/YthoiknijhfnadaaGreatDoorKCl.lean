/- What the arena's functions do upon its parts: Clone. -/
import Derived.Test.YthoiknijhfnadaaGreatDoorKArC
namespace Go.AI
open Go.Proofs
variable {hk:Hook Empty}
end Go.AI
/- The arena as one object: Clone, where the old one is not used any more. -/
namespace Go.AI
open Go.Proofs
variable {W0:World}{Cls:Nat→Int→Prop}
end Go.AI
