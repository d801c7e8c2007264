/- A chapter's example, reckoned by the kernel piece by piece. -/
import Derived.Test.YtjhcoemfkejgdaaGreatDoorAw8
namespace Go.AI
open Go.Proofs
noncomputable def s25_1 : Ms Ar := ⟨1000, [], .norm,
  [(0, (.bool true))],
  ⟨[],
  [], 2358⟩⟩
set_option maxRecDepth 1000000 in
theorem t25_1 : machS F1 cleanT (hookL h17a) 28000 (Ms.call 1000 14 ⟨[], 0⟩ : Ms Ar) = some (s25_1 : Ms Ar) := by kernel_rfl
theorem r25 : ∃ h', run F1 cleanT (hookL h17a) 1000 14 [] (⟨[], 0⟩ : Hp Ar) = some (.bool true, h') := by
  have h0 := Ms.call_den (F := F1) (clean := cleanT) (hook := hookL h17a) 1000 14 (⟨[], 0⟩ : Hp Ar)
  rw [machS_den t25_1] at h0
  exact ⟨_, h0.symm.trans (Ms.end_den rfl)⟩
end Go.AI
