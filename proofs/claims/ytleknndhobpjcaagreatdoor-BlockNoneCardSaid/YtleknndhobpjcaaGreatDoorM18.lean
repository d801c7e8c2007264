/- A chapter's example, reckoned by the kernel piece by piece. -/
import Derived.Test.YtleknndhobpjcaaGreatDoorM16
namespace Go.AI
open Go.Proofs
noncomputable def s18_1 : Ms Ar := ⟨1000, [], .norm,
  [(0, (.bool true))],
  ⟨[],
  [], 1465⟩⟩
set_option maxRecDepth 1000000 in
theorem t18_1 : machS F1 cleanT (hookL h16a) 15000 (Ms.call 1000 223 ⟨[], 0⟩ : Ms Ar) = some (s18_1 : Ms Ar) := by kernel_rfl
theorem r18 : ∃ h', run F1 cleanT (hookL h16a) 1000 223 [] (⟨[], 0⟩ : Hp Ar) = some (.bool true, h') := by
  have h0 := Ms.call_den (F := F1) (clean := cleanT) (hook := hookL h16a) 1000 223 (⟨[], 0⟩ : Hp Ar)
  rw [machS_den t18_1] at h0
  exact ⟨_, h0.symm.trans (Ms.end_den rfl)⟩
theorem h18a_ok {W0 : World} (hT : Tabs W0) : ∀ x ∈ h18a, HookOk Ext1 PZ W0 x.1 x.2 := next_ok (h16a_ok hT) r18
end Go.AI
