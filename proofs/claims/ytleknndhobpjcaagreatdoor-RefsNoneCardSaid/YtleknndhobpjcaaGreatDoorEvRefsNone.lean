/- A chapter's example, reckoned by the kernel piece by piece. -/
import Derived.Test.YtleknndhobpjcaaGreatDoorM23
namespace Go.AI
open Go.Proofs
noncomputable def sRefsNone_1 : Ms Ar := ⟨1000, [], .norm,
  [(0, (.bool true))],
  ⟨[],
  [], 155⟩⟩
set_option maxRecDepth 1000000 in
theorem tRefsNone_1 : machS F1 cleanT (hookL h23a) 15000 (Ms.call 1000 6 ⟨[], 0⟩ : Ms Ar) = some (sRefsNone_1 : Ms Ar) := by kernel_rfl
theorem rRefsNone : ∃ h', run F1 cleanT (hookL h23a) 1000 6 [] (⟨[], 0⟩ : Hp Ar) = some (.bool true, h') := by
  have h0 := Ms.call_den (F := F1) (clean := cleanT) (hook := hookL h23a) 1000 6 (⟨[], 0⟩ : Hp Ar)
  rw [machS_den tRefsNone_1] at h0
  exact ⟨_, h0.symm.trans (Ms.end_den rfl)⟩
end Go.AI
