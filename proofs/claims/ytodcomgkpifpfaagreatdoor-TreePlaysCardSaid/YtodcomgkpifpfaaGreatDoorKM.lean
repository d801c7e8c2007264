/- A chapter's example, reckoned by the kernel piece by piece. -/
import Derived.Test.YtodcomgkpifpfaaGreatDoorKAy
set_option maxRecDepth 1000000
namespace Go.AI
open Go.Proofs
noncomputable def s16_1:Ms Ar:=⟨1000,[],.norm,
 [(0,(.bool true))],
 ⟨[],
 [],2473⟩⟩
theorem t16_1:machS F1 cleanT (hookL h15a) 28000 (Ms.call 1000 106 ⟨[],0⟩:Ms Ar)=some (s16_1:Ms Ar):=by kernel_rfl
theorem r16:∃h',run F1 cleanT (hookL h15a) 1000 106 [] (⟨[],0⟩:Hp Ar)=some (.bool true,h'):=by
 have h0:=Ms.call_den (F:=F1) (clean:=cleanT) (hook:=hookL h15a) 1000 106 (⟨[],0⟩:Hp Ar)
 rw[machS_den t16_1] at h0
 exact⟨_,h0.symm.trans (Ms.end_den rfl)⟩
end Go.AI
/- A chapter's example, reckoned by the kernel piece by piece. -/
namespace Go.AI
open Go.Proofs
noncomputable def s18_1:Ms Ar:=⟨1000,[],.norm,
 [(0,(.bool true))],
 ⟨[],
 [],904⟩⟩
theorem t18_1:machS F1 cleanT (hookL h16a) 16000 (Ms.call 1000 44 ⟨[],0⟩:Ms Ar)=some (s18_1:Ms Ar):=by kernel_rfl
theorem r18:∃h',run F1 cleanT (hookL h16a) 1000 44 [] (⟨[],0⟩:Hp Ar)=some (.bool true,h'):=by
 have h0:=Ms.call_den (F:=F1) (clean:=cleanT) (hook:=hookL h16a) 1000 44 (⟨[],0⟩:Hp Ar)
 rw[machS_den t18_1] at h0
 exact⟨_,h0.symm.trans (Ms.end_den rfl)⟩
end Go.AI
