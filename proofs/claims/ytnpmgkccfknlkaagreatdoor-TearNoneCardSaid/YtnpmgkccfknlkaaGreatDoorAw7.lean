/- The chapters' examples, reckoned by the kernel, on. -/
import Derived.Test.YtnpmgkccfknlkaaGreatDoorKAx
namespace Go.AI
open Go.Proofs
variable {E : Ext} {W0 : World}
set_option maxRecDepth 1000000 in
theorem e15 {X : Type} : runK F1 cleanT (hookL h14) 1000 372 [] ⟨[], 0⟩ (fun v _ => some (v, (⟨[], 0⟩ : Hp X))) = some (.bool true, (⟨[], 0⟩ : Hp X)) := by kernel_rfl
def h15 {X : Type} : List (HookF X) := (372, constH (.bool true)) :: h14
theorem h15_ok (hT : Tabs W0) : ∀ x ∈ h15 (X := E.X), HookOk E PZ W0 x.1 x.2 := awake_ok (esc := escT) (h14_ok hT) rfl e15
end Go.AI
