/- Which objects of a function nobody else sees, and which functions leave no new reference behind: tables made by a program; whatever they say, the evaluator is sound. -/
import Derived.Test.YthoiknijhfnadaaGreatDoorKFast
import Derived.Test.YthoiknijhfnadaaGreatDoorKHk
import Derived.Test.YthoiknijhfnadaaGreatDoorKRo
namespace Go.AI
def stayL:List Nat:=[0,0,0,33280,75008,83712,0,1024,108,1024,1944,0,0,32,2,128,2,128,8,0,64,6,4,256,12,2080,34,4,64,0,8,0,0,0,512,336,60,4,2,12,276,4,2,0,72,0,0,100,0,0,2,72,3,12,8,114,16,32,5376,1104,1368,8,2,1,8,272,0,0,0,0,0,0,0,4,16,24,0,0,2,8,4,8,2,24,1336,0,4,48,4,8,0,0,4,4,1160,320,16,36,8,16,3,0,1312,6,4,0,8,0,0,0,0,0,8,0,0,4,4,4,72,8,36,4,8,136,272,8,8,0,0,80,0,20628,8,6,4,148,0,40,0,0,34,4,28,0,8,8,80,0,0,0,0,32,0,72,0,0,8,0,2,0,1344,0,6,0,0,8,0,16,8,164,20,8,4,64,0,0,2,4,4,0,2,264,40,2,8,2,8,8,0,6,6,4,0,0,0,128,4,8,8,16,2,0,322,0,6,2,4,8,0,0,2,38,16,44,8712,16,3,4,32,4,4,36,36,18,0,0,0,0,0,0,20,2,0,0,0,0,0,66,0,0,0,2,0,2,8,38,0,84,320,4,0,68,22,42,0,0,0,0,0,0,0,256,72,8,10,80,0,2312,0,0,0,0,0,1072,168,0,0,8,0,42,32,0,0,32,320,148,40,0,0,68,0,0,2,0,68,132,0,0,64,0,34,0,32,2,128,0,0,68,4,136,164,136,0,0,0,0,0,0,0,0,0,0,0,0,0,0,0,0,0,0,0,0,0,0,0,0,0,0,0]
def cleanM:Nat:=559936188662580182988804684860981820033910974956019937194742352469932687406391897098723498348322493764
end Go.AI
/- The lower chapters' examples, reckoned by the kernel. -/
namespace Go.AI
open Go.Proofs
variable {E:Ext}{W0:World}
def escT(f s:Nat):Bool:=!(Nat.beq (Nat.land (Nat.shiftRight (stayL.getD f 0) s) 1) 1)
def cleanT(f:Nat):Bool:=Nat.beq (Nat.land (Nat.shiftRight cleanM f) 1) 1
noncomputable def F1:Nat→Option IFn:=mkFn PZ escT
theorem noEscE:Entry PZ 148 Extern.AbiNoEscape.same:=⟨_,Tryz.func148,rfl,by kernel_rfl,by kernel_rfl,_,rfl,fun _=>rfl⟩
theorem makeNZE:Entry PZ 270 (Extern.BytealgMakeNoZero.makeNoZero Tryz.f270.params Tryz.f270.resultTypes):=⟨_,Tryz.func270,rfl,by kernel_rfl,by kernel_rfl,_,rfl,fun _=>rfl⟩
abbrev HookF(X:Type):=Nat×(List Value→Hp X→Option (Value×Hp X))
def hB{X:Type}:List (HookF X):=[(148,noEscapeH),(270,makeNoZeroH 5),(227,tz64H),(226,tz32H)]
theorem hB_ok(hT:Tabs W0):∀x∈hB (X:=E.X),HookOk E PZ W0 x.1 x.2:=by
 intro x hx
 simp only[hB,List.mem_cons,List.not_mem_nil,or_false] at hx
 rcases hx with rfl|rfl|rfl|rfl
 ·exact noEscape_ok noEscE
 ·exact makeNoZero_ok makeNZE (s:=156) (by kernel_rfl) Tryz.underlying156
 ·exact tz64_ok Tryz.lays29 rfl tz64B hT.t64 hT.l64
 ·exact tz32_ok Tryz.lays28 rfl tz32B hT.t32 hT.l32
theorem more_ok{l:List (HookF E.X)}(h:∀x∈l,HookOk E PZ W0 x.1 x.2){k:Nat}{g:List Value→Hp E.X→Option (Value×Hp E.X)}(hg:HookOk E PZ W0 k g):∀x∈(k,g)::l,HookOk E PZ W0 x.1 x.2:=by
 intro x hx
 rcases List.mem_cons.1 hx with rfl|hx
 ·exact hg
 ·exact h x hx
theorem awake_ok{l:List (HookF E.X)}(h:∀x∈l,HookOk E PZ W0 x.1 x.2){F:Nat→Option IFn}{esc:Nat→Nat→Bool}(hF:F=mkFn PZ esc){clean:Nat→Bool}{n k:Nat}
  (hv:runK F clean (hookL l) n k [] ⟨[],0⟩ (fun v _=>some (v,(⟨[],0⟩:Hp E.X)))=some (.bool true,(⟨[],0⟩:Hp E.X))):∀x∈(k,constH (.bool true))::l,HookOk E PZ W0 x.1 x.2:=by
 subst hF
 exact more_ok h (true_ok (run_sound mixedZ (hookL_ok h) n) (run_of_value hv))
def h02a{X:Type}:List (HookF X):=(264,rowsH)::hB
theorem h02a_ok(hT:Tabs W0):∀x∈h02a (X:=E.X),HookOk E PZ W0 x.1 x.2:=more_ok (hB_ok hT) (rows_ok hT)
theorem e02{X:Type}:runK F0 (fun _=>false) (hookL h02a) 100 209 [] ⟨[],0⟩ (fun v _=>some (v,(⟨[],0⟩:Hp X)))=some (.bool true,(⟨[],0⟩:Hp X)):=by kernel_rfl
def h02{X:Type}:List (HookF X):=(209,constH (.bool true))::hB
theorem h02_ok(hT:Tabs W0):∀x∈h02 (X:=E.X),HookOk E PZ W0 x.1 x.2 :=
 more_ok (hB_ok hT) (true_ok (run_sound (esc:=escAll) mixedZ (hookL_ok (h02a_ok hT)) 100) (run_of_value e02))
end Go.AI
