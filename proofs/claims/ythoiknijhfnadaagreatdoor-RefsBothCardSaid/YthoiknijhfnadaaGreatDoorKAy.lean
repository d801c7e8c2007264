/- The chapters' examples, reckoned by the kernel, on. -/
import Derived.Test.YthoiknijhfnadaaGreatDoorKAx
import Derived.Test.YthoiknijhfnadaaGreatDoorKV
set_option maxRecDepth 1000000
namespace Go.AI
open Go.Proofs
variable {E:Ext}{W0:World}
theorem e15{X:Type}:runK F1 cleanT (hookL h14) 1000 254 [] ⟨[],0⟩ (fun v _=>some (v,(⟨[],0⟩:Hp X)))=some (.bool true,(⟨[],0⟩:Hp X)):=by kernel_rfl
def h15{X:Type}:List (HookF X):=(254,constH (.bool true))::h14
theorem h15_ok(hT:Tabs W0):∀x∈h15 (X:=E.X),HookOk E PZ W0 x.1 x.2:=awake_ok (esc:=escT) (h14_ok hT) rfl e15
end Go.AI
/- From here on the arena is one object, and a view's functions are told. -/
namespace Go.AI
open Go.Proofs
variable {W0:World}{Cls:Nat→Int→Prop}
noncomputable def ru(n:Nat)(v:UInt8)(r:List UInt8):List UInt8:=Nat.rec r (fun _ ih=>v::ih) n
def h15a:List (HookF Ar):=hV4++h15
theorem h15a_ok(hT:Tabs W0):∀x∈h15a,HookOk (Ext1 Cls) PZ W0 x.1 x.2:=by
 intro x hx
 rcases List.mem_append.1 hx with h|h
 ·exact hV4_ok x h
 ·exact h15_ok (E:=(Ext1 Cls)) hT x h
def h16a:List (HookF Ar):=(186,constH (.bool true))::h15a
def h18a:List (HookF Ar):=(125,constH (.bool true))::h16a
def h19a:List (HookF Ar):=(56,constH (.bool true))::h18a
def h23a:List (HookF Ar):=(6,constH (.bool true))::h19a
theorem next_ok{l:List (HookF Ar)}(h:∀x∈l,HookOk (Ext1 Cls) PZ W0 x.1 x.2){n k:Nat}(hv:∃h',run F1 cleanT (hookL l) n k [] (⟨[],0⟩:Hp Ar)=some (.bool true,h')):∀x∈(k,constH (.bool true))::l,HookOk (Ext1 Cls) PZ W0 x.1 x.2 :=
 more_ok (E:=(Ext1 Cls)) h (true_ok (run_sound (esc:=escT) mixedZ (hookL_ok h) n) hv)
end Go.AI
