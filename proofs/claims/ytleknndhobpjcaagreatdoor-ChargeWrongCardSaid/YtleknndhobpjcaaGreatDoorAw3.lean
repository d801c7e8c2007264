/- The chapters' examples, reckoned by the kernel, on. -/
import Derived.Test.YtleknndhobpjcaaGreatDoorAw2
namespace Go.AI
open Go.Proofs
variable {E : Ext} {W0 : World}
set_option maxRecDepth 1000000 in
theorem e08 {X : Type} : runK F1 cleanT (hookL h07) 1000 371 [] ⟨[], 0⟩ (fun v _ => some (v, (⟨[], 0⟩ : Hp X))) = some (.bool true, (⟨[], 0⟩ : Hp X)) := by kernel_rfl
def h08 {X : Type} : List (HookF X) := (371, constH (.bool true)) :: h07
theorem h08_ok (hT : Tabs W0) : ∀ x ∈ h08 (X := E.X), HookOk E PZ W0 x.1 x.2 := awake_ok (esc := escT) (h07_ok hT) rfl e08
end Go.AI
