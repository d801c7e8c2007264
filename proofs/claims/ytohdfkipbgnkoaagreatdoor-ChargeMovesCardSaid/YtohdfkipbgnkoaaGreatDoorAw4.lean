/- The chapters' examples, reckoned by the kernel, on. -/
import Derived.Test.YtohdfkipbgnkoaaGreatDoorKAw
set_option maxRecDepth 1000000
namespace Go.AI
open Go.Proofs
variable {E:Ext}{W0:World}
theorem e09{X:Type}:gX F1 ac (ab h08) 1000 259 [] ⟨[],0⟩ (fun v _=>some (v,(⟨[],0⟩:Hp X)))=some (.bool true,(⟨[],0⟩:Hp X)):=by kernel_rfl
def h09{X:Type}:List (aK X):=(259,cB (.bool true))::h08
theorem Mu(hT:Tabs W0):∀x∈h09 (X:=E.X),aQ E PZ W0 x.1 x.2:=dz (esc:=jR) (LJ hT) rfl e09
theorem e10{X:Type}:gX F1 ac (ab h09) 1000 251 [] ⟨[],0⟩ (fun v _=>some (v,(⟨[],0⟩:Hp X)))=some (.bool true,(⟨[],0⟩:Hp X)):=by kernel_rfl
def h10{X:Type}:List (aK X):=(251,cB (.bool true))::h09
theorem Mi(hT:Tabs W0):∀x∈h10 (X:=E.X),aQ E PZ W0 x.1 x.2:=dz (esc:=jR) (Mu hT) rfl e10
theorem e11{X:Type}:gX F1 ac (ab h10) 1000 260 [] ⟨[],0⟩ (fun v _=>some (v,(⟨[],0⟩:Hp X)))=some (.bool true,(⟨[],0⟩:Hp X)):=by kernel_rfl
def h11{X:Type}:List (aK X):=(260,cB (.bool true))::h10
theorem Lt(hT:Tabs W0):∀x∈h11 (X:=E.X),aQ E PZ W0 x.1 x.2:=dz (esc:=jR) (Mi hT) rfl e11
end Go.AI
