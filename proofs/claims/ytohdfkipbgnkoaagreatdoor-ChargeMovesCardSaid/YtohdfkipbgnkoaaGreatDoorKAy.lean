/- The chapters' examples, reckoned by the kernel, on. -/
import Derived.Test.YtohdfkipbgnkoaaGreatDoorKAx
import Derived.Test.YtohdfkipbgnkoaaGreatDoorKV
set_option maxRecDepth 1000000
namespace Go.AI
open Go.Proofs
variable {E:Ext}{W0:World}
theorem e15{X:Type}:gX F1 ac (ab h14) 1000 237 [] ⟨[],0⟩ (fun v _=>some (v,(⟨[],0⟩:Hp X)))=some (.bool true,(⟨[],0⟩:Hp X)):=by kernel_rfl
def h15{X:Type}:List (aK X):=(237,cB (.bool true))::h14
theorem Mv(hT:Tabs W0):∀x∈h15 (X:=E.X),aQ E PZ W0 x.1 x.2:=dz (esc:=jR) (LN hT) rfl e15
end Go.AI
namespace Go.AI
open Go.Proofs
variable {W0:World}{Cls:Nat→Int→Prop}
noncomputable def ru(n:Nat)(v:UInt8)(r:List UInt8):List UInt8:=Nat.rec r (fun _ ih=>v::ih) n
noncomputable def au(l r:List UInt8):List UInt8:=List.rec r (fun x _ ih=>x::ih) l
def Fu:List (aK Ar):=hV4++h15
theorem HK(hT:Tabs W0):∀x∈Fu,aQ (a8 Cls) PZ W0 x.1 x.2:=by
 intro x hx;rcases List.mem_append.1 hx with h|h
 ·exact yr x h
 ·exact Mv (E:=(a8 Cls)) hT x h
def Fc:List (aK Ar):=(177,cB (.bool true))::Fu
def x7:List (aK Ar):=(97,cB (.bool true))::Fc
def cr:List (aK Ar):=(36,cB (.bool true))::x7
def PA:List (aK Ar):=(4,cB (.bool true))::cr
theorem pG{l:List (aK Ar)}(h:∀x∈l,aQ (a8 Cls) PZ W0 x.1 x.2){n k:Nat}(hv:∃h',run F1 ac (ab l) n k [] (⟨[],0⟩:Hp Ar)=some (.bool true,h')):∀x∈(k,cB (.bool true))::l,aQ (a8 Cls) PZ W0 x.1 x.2 :=
 bk (E:=(a8 Cls)) h (uI (eE (esc:=jR) j6 (f7 h) n) hv)
end Go.AI
