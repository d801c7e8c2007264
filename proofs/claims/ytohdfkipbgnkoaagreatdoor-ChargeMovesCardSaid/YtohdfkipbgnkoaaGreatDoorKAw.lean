/- The chapters' examples, reckoned by the kernel, on. -/
import Derived.Test.YtohdfkipbgnkoaaGreatDoorKTa
set_option maxRecDepth 1000000
namespace Go.AI
open Go.Proofs
variable {E:Ext}{W0:World}
theorem e03{X:Type}:gX F1 ac (ab h02) 1000 286 [] ⟨[],0⟩ (fun v _=>some (v,(⟨[],0⟩:Hp X)))=some (.bool true,(⟨[],0⟩:Hp X)):=by kernel_rfl
def h03{X:Type}:List (aK X):=(286,cB (.bool true))::h02
theorem MG(hT:Tabs W0):∀x∈h03 (X:=E.X),aQ E PZ W0 x.1 x.2:=dz (esc:=jR) (LM hT) rfl e03
theorem e04{X:Type}:gX F1 ac (ab h03) 1000 273 [] ⟨[],0⟩ (fun v _=>some (v,(⟨[],0⟩:Hp X)))=some (.bool true,(⟨[],0⟩:Hp X)):=by kernel_rfl
def h04{X:Type}:List (aK X):=(273,cB (.bool true))::h03
theorem Mw(hT:Tabs W0):∀x∈h04 (X:=E.X),aQ E PZ W0 x.1 x.2:=dz (esc:=jR) (MG hT) rfl e04
theorem e05{X:Type}:gX F1 ac (ab h04) 1000 261 [] ⟨[],0⟩ (fun v _=>some (v,(⟨[],0⟩:Hp X)))=some (.bool true,(⟨[],0⟩:Hp X)):=by kernel_rfl
def h05{X:Type}:List (aK X):=(261,cB (.bool true))::h04
theorem LE(hT:Tabs W0):∀x∈h05 (X:=E.X),aQ E PZ W0 x.1 x.2:=dz (esc:=jR) (Mw hT) rfl e05
theorem e06{X:Type}:gX F1 ac (ab h05) 1000 281 [] ⟨[],0⟩ (fun v _=>some (v,(⟨[],0⟩:Hp X)))=some (.bool true,(⟨[],0⟩:Hp X)):=by kernel_rfl
def h06{X:Type}:List (aK X):=(281,cB (.bool true))::h05
theorem KP(hT:Tabs W0):∀x∈h06 (X:=E.X),aQ E PZ W0 x.1 x.2:=dz (esc:=jR) (LE hT) rfl e06
theorem e07{X:Type}:gX F1 ac (ab h06) 1000 282 [] ⟨[],0⟩ (fun v _=>some (v,(⟨[],0⟩:Hp X)))=some (.bool true,(⟨[],0⟩:Hp X)):=by kernel_rfl
def h07{X:Type}:List (aK X):=(282,cB (.bool true))::h06
theorem M2(hT:Tabs W0):∀x∈h07 (X:=E.X),aQ E PZ W0 x.1 x.2:=dz (esc:=jR) (KP hT) rfl e07
end Go.AI
namespace Go.AI
open Go.Proofs
variable {E:Ext}{W0:World}
theorem e08{X:Type}:gX F1 ac (ab h07) 1000 267 [] ⟨[],0⟩ (fun v _=>some (v,(⟨[],0⟩:Hp X)))=some (.bool true,(⟨[],0⟩:Hp X)):=by kernel_rfl
def h08{X:Type}:List (aK X):=(267,cB (.bool true))::h07
theorem LJ(hT:Tabs W0):∀x∈h08 (X:=E.X),aQ E PZ W0 x.1 x.2:=dz (esc:=jR) (M2 hT) rfl e08
end Go.AI
