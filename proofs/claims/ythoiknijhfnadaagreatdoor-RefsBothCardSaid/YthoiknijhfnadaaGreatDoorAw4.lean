/- The chapters' examples, reckoned by the kernel, on. -/
import Derived.Test.YthoiknijhfnadaaGreatDoorKAw
set_option maxRecDepth 1000000
namespace Go.AI
open Go.Proofs
variable {E:Ext}{W0:World}
theorem e09{X:Type}:runK F1 cleanT (hookL h08) 1000 290 [] ⟨[],0⟩ (fun v _=>some (v,(⟨[],0⟩:Hp X)))=some (.bool true,(⟨[],0⟩:Hp X)):=by kernel_rfl
def h09{X:Type}:List (HookF X):=(290,constH (.bool true))::h08
theorem h09_ok(hT:Tabs W0):∀x∈h09 (X:=E.X),HookOk E PZ W0 x.1 x.2:=awake_ok (esc:=escT) (h08_ok hT) rfl e09
theorem e10{X:Type}:runK F1 cleanT (hookL h09) 1000 282 [] ⟨[],0⟩ (fun v _=>some (v,(⟨[],0⟩:Hp X)))=some (.bool true,(⟨[],0⟩:Hp X)):=by kernel_rfl
def h10{X:Type}:List (HookF X):=(282,constH (.bool true))::h09
theorem h10_ok(hT:Tabs W0):∀x∈h10 (X:=E.X),HookOk E PZ W0 x.1 x.2:=awake_ok (esc:=escT) (h09_ok hT) rfl e10
theorem e11{X:Type}:runK F1 cleanT (hookL h10) 1000 291 [] ⟨[],0⟩ (fun v _=>some (v,(⟨[],0⟩:Hp X)))=some (.bool true,(⟨[],0⟩:Hp X)):=by kernel_rfl
def h11{X:Type}:List (HookF X):=(291,constH (.bool true))::h10
theorem h11_ok(hT:Tabs W0):∀x∈h11 (X:=E.X),HookOk E PZ W0 x.1 x.2:=awake_ok (esc:=escT) (h10_ok hT) rfl e11
end Go.AI
