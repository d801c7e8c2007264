/- The chapters' examples, reckoned by the kernel, on. -/
import Derived.Test.YtohdfkipbgnkoaaGreatDoorAw4
set_option maxRecDepth 1000000
namespace Go.AI
open Go.Proofs
variable {E:Ext}{W0:World}
theorem e12{X:Type}:gX F1 ac (ab h11) 1000 250 [] ⟨[],0⟩ (fun v _=>some (v,(⟨[],0⟩:Hp X)))=some (.bool true,(⟨[],0⟩:Hp X)):=by kernel_rfl
def h12{X:Type}:List (aK X):=(250,cB (.bool true))::h11
theorem M5(hT:Tabs W0):∀x∈h12 (X:=E.X),aQ E PZ W0 x.1 x.2:=dz (esc:=jR) (Lt hT) rfl e12
end Go.AI
namespace Go.AI
open Go.Proofs
variable {E:Ext}{W0:World}
theorem e13{X:Type}:gX F1 ac (ab h12) 1000 242 [] ⟨[],0⟩ (fun v _=>some (v,(⟨[],0⟩:Hp X)))=some (.bool true,(⟨[],0⟩:Hp X)):=by kernel_rfl
def h13{X:Type}:List (aK X):=(242,cB (.bool true))::h12
theorem ME(hT:Tabs W0):∀x∈h13 (X:=E.X),aQ E PZ W0 x.1 x.2:=dz (esc:=jR) (M5 hT) rfl e13
theorem e14{X:Type}:gX F1 ac (ab h13) 1000 243 [] ⟨[],0⟩ (fun v _=>some (v,(⟨[],0⟩:Hp X)))=some (.bool true,(⟨[],0⟩:Hp X)):=by kernel_rfl
def h14{X:Type}:List (aK X):=(243,cB (.bool true))::h13
theorem LN(hT:Tabs W0):∀x∈h14 (X:=E.X),aQ E PZ W0 x.1 x.2:=dz (esc:=jR) (ME hT) rfl e14
end Go.AI
