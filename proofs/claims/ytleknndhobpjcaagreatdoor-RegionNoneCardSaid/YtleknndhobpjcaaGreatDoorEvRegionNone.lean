/- RegionNone, reckoned by the kernel over the lower chapters' examples. -/
import Derived.Test.YtleknndhobpjcaaGreatDoorAw7
import Derived.Test.YtleknndhobpjcaaGreatDoorAiArena
namespace Go.AI
set_option maxRecDepth 1000000 in
theorem evRegionNone {X : Type} : runK F1 cleanT (hookL h15) 1000 3 [] ⟨[], 0⟩ (fun v _ => some (v, (⟨[], 0⟩ : Hp X))) = some (.bool true, (⟨[], 0⟩ : Hp X)) := by kernel_rfl
end Go.AI
