/- The chapters' examples, reckoned by the kernel, on. -/
import Derived.Test.YthoiknijhfnadaaGreatDoorAw4
set_option maxRecDepth 1000000
namespace Go.AI
open Go.Proofs
variable {E:Ext}{W0:World}
theorem e12{X:Type}:runK F1 cleanT (hookL h11) 1000 281 [] ⟨[],0⟩ (fun v _=>some (v,(⟨[],0⟩:Hp X)))=some (.bool true,(⟨[],0⟩:Hp X)):=by kernel_rfl
def h12{X:Type}:List (HookF X):=(281,constH (.bool true))::h11
theorem h12_ok(hT:Tabs W0):∀x∈h12 (X:=E.X),HookOk E PZ W0 x.1 x.2:=awake_ok (esc:=escT) (h11_ok hT) rfl e12
end Go.AI
/- The chapters' examples, reckoned by the kernel, on. -/
namespace Go.AI
open Go.Proofs
variable {E:Ext}{W0:World}
theorem e13{X:Type}:runK F1 cleanT (hookL h12) 1000 268 [] ⟨[],0⟩ (fun v _=>some (v,(⟨[],0⟩:Hp X)))=some (.bool true,(⟨[],0⟩:Hp X)):=by kernel_rfl
def h13{X:Type}:List (HookF X):=(268,constH (.bool true))::h12
theorem h13_ok(hT:Tabs W0):∀x∈h13 (X:=E.X),HookOk E PZ W0 x.1 x.2:=awake_ok (esc:=escT) (h12_ok hT) rfl e13
theorem e14{X:Type}:runK F1 cleanT (hookL h13) 1000 269 [] ⟨[],0⟩ (fun v _=>some (v,(⟨[],0⟩:Hp X)))=some (.bool true,(⟨[],0⟩:Hp X)):=by kernel_rfl
def h14{X:Type}:List (HookF X):=(269,constH (.bool true))::h13
theorem h14_ok(hT:Tabs W0):∀x∈h14 (X:=E.X),HookOk E PZ W0 x.1 x.2:=awake_ok (esc:=escT) (h13_ok hT) rfl e14
end Go.AI
