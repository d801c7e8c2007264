/- The chapters' examples, reckoned by the kernel, on. -/
import Derived.Test.YthoiknijhfnadaaGreatDoorKTa
set_option maxRecDepth 1000000
namespace Go.AI
open Go.Proofs
variable {E:Ext}{W0:World}
theorem e03{X:Type}:runK F1 cleanT (hookL h02) 1000 154 [] ⟨[],0⟩ (fun v _=>some (v,(⟨[],0⟩:Hp X)))=some (.bool true,(⟨[],0⟩:Hp X)):=by kernel_rfl
def h03{X:Type}:List (HookF X):=(154,constH (.bool true))::h02
theorem h03_ok(hT:Tabs W0):∀x∈h03 (X:=E.X),HookOk E PZ W0 x.1 x.2:=awake_ok (esc:=escT) (h02_ok hT) rfl e03
theorem e04{X:Type}:runK F1 cleanT (hookL h03) 1000 85 [] ⟨[],0⟩ (fun v _=>some (v,(⟨[],0⟩:Hp X)))=some (.bool true,(⟨[],0⟩:Hp X)):=by kernel_rfl
def h04{X:Type}:List (HookF X):=(85,constH (.bool true))::h03
theorem h04_ok(hT:Tabs W0):∀x∈h04 (X:=E.X),HookOk E PZ W0 x.1 x.2:=awake_ok (esc:=escT) (h03_ok hT) rfl e04
theorem e05{X:Type}:runK F1 cleanT (hookL h04) 1000 31 [] ⟨[],0⟩ (fun v _=>some (v,(⟨[],0⟩:Hp X)))=some (.bool true,(⟨[],0⟩:Hp X)):=by kernel_rfl
def h05{X:Type}:List (HookF X):=(31,constH (.bool true))::h04
theorem h05_ok(hT:Tabs W0):∀x∈h05 (X:=E.X),HookOk E PZ W0 x.1 x.2:=awake_ok (esc:=escT) (h04_ok hT) rfl e05
theorem e06{X:Type}:runK F1 cleanT (hookL h05) 1000 305 [] ⟨[],0⟩ (fun v _=>some (v,(⟨[],0⟩:Hp X)))=some (.bool true,(⟨[],0⟩:Hp X)):=by kernel_rfl
def h06{X:Type}:List (HookF X):=(305,constH (.bool true))::h05
theorem h06_ok(hT:Tabs W0):∀x∈h06 (X:=E.X),HookOk E PZ W0 x.1 x.2:=awake_ok (esc:=escT) (h05_ok hT) rfl e06
theorem e07{X:Type}:runK F1 cleanT (hookL h06) 1000 306 [] ⟨[],0⟩ (fun v _=>some (v,(⟨[],0⟩:Hp X)))=some (.bool true,(⟨[],0⟩:Hp X)):=by kernel_rfl
def h07{X:Type}:List (HookF X):=(306,constH (.bool true))::h06
theorem h07_ok(hT:Tabs W0):∀x∈h07 (X:=E.X),HookOk E PZ W0 x.1 x.2:=awake_ok (esc:=escT) (h06_ok hT) rfl e07
end Go.AI
/- The chapters' examples, reckoned by the kernel, on. -/
namespace Go.AI
open Go.Proofs
variable {E:Ext}{W0:World}
theorem e08{X:Type}:runK F1 cleanT (hookL h07) 1000 296 [] ⟨[],0⟩ (fun v _=>some (v,(⟨[],0⟩:Hp X)))=some (.bool true,(⟨[],0⟩:Hp X)):=by kernel_rfl
def h08{X:Type}:List (HookF X):=(296,constH (.bool true))::h07
theorem h08_ok(hT:Tabs W0):∀x∈h08 (X:=E.X),HookOk E PZ W0 x.1 x.2:=awake_ok (esc:=escT) (h07_ok hT) rfl e08
end Go.AI
