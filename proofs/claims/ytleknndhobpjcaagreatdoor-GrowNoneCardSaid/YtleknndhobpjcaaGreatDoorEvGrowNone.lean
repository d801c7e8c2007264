/- A chapter's example, reckoned by the kernel piece by piece. -/
import Derived.Test.YtleknndhobpjcaaGreatDoorM16
namespace Go.AI
open Go.Proofs
noncomputable def sGrowNone_1 : Ms Ar := ⟨1000, [], .norm,
  [(0, (.bool true))],
  ⟨[],
  [], 586⟩⟩
set_option maxRecDepth 1000000 in
theorem tGrowNone_1 : machS F1 cleanT (hookL h16a) 15000 (Ms.call 1000 4 ⟨[], 0⟩ : Ms Ar) = some (sGrowNone_1 : Ms Ar) := by kernel_rfl
theorem rGrowNone : ∃ h', run F1 cleanT (hookL h16a) 1000 4 [] (⟨[], 0⟩ : Hp Ar) = some (.bool true, h') := by
  have h0 := Ms.call_den (F := F1) (clean := cleanT) (hook := hookL h16a) 1000 4 (⟨[], 0⟩ : Hp Ar)
  rw [machS_den tGrowNone_1] at h0
  exact ⟨_, h0.symm.trans (Ms.end_den rfl)⟩
end Go.AI
