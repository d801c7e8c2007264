/- The chapters' examples, reckoned by the kernel, on. -/
import Derived.Test.YtleknndhobpjcaaGreatDoorAw4
namespace Go.AI
open Go.Proofs
variable {E : Ext} {W0 : World}
set_option maxRecDepth 1000000 in
theorem e12 {X : Type} : runK F1 cleanT (hookL h11) 1000 262 [] ⟨[], 0⟩ (fun v _ => some (v, (⟨[], 0⟩ : Hp X))) = some (.bool true, (⟨[], 0⟩ : Hp X)) := by kernel_rfl
def h12 {X : Type} : List (HookF X) := (262, constH (.bool true)) :: h11
theorem h12_ok (hT : Tabs W0) : ∀ x ∈ h12 (X := E.X), HookOk E PZ W0 x.1 x.2 := awake_ok (esc := escT) (h11_ok hT) rfl e12
end Go.AI
