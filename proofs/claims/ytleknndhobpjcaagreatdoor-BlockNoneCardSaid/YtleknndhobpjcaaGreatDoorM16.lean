/- A chapter's example, reckoned by the kernel piece by piece. -/
import Derived.Test.YtleknndhobpjcaaGreatDoorAw8
namespace Go.AI
open Go.Proofs
noncomputable def s16_1 : Ms Ar := ⟨1000, [], .norm,
  [(0, (.bool true))],
  ⟨[],
  [], 3510⟩⟩
set_option maxRecDepth 1000000 in
theorem t16_1 : machS F1 cleanT (hookL h15a) 30000 (Ms.call 1000 29 ⟨[], 0⟩ : Ms Ar) = some (s16_1 : Ms Ar) := by kernel_rfl
theorem r16 : ∃ h', run F1 cleanT (hookL h15a) 1000 29 [] (⟨[], 0⟩ : Hp Ar) = some (.bool true, h') := by
  have h0 := Ms.call_den (F := F1) (clean := cleanT) (hook := hookL h15a) 1000 29 (⟨[], 0⟩ : Hp Ar)
  rw [machS_den t16_1] at h0
  exact ⟨_, h0.symm.trans (Ms.end_den rfl)⟩
theorem h16a_ok {W0 : World} (hT : Tabs W0) : ∀ x ∈ h16a, HookOk Ext1 PZ W0 x.1 x.2 := next_ok (h15a_ok hT) r16
end Go.AI
