/- Which objects of a function nobody else sees, and which functions leave no new reference behind: tables made by a program; whatever they say, the evaluator is sound. -/
import Derived.Test.YthkdchfpgpafaaaGreatDoorKFast
import Derived.Test.YthkdchfpgpafaaaGreatDoorKHk
import Derived.Test.YthkdchfpgpafaaaGreatDoorKRo
namespace Go.AI
def stayL:List Nat:=[0,0,0,0,0,0,8,0,64,64,0,0,0,0,0,0,36864,0,0,0,0,5376,8,16,1024,4,2,8,16,32,4,2,4,4352,2,2,512,16,520,1944,0,108,0,4,136,8,0,0,0,0,1344,0,0,8,0,16,8,0,0,0,64,72,6,4,6,8,16,4,8,0,2,5376,8,6,36,34,136,4,0,4,336,136,2,6,276,34,8,8,4,8,72,4,60,12,12,4,0,4,4,4096,0,0,0,0,0,0,72,6,6,4,0,0,0,128,4,8,8,16,2,8,0,0,8,2,6,0,0,2,4,320,1368,36,16,22,8,34,4,32,4,4,8,4,1104,1,2,3,12,36,272,136,4,100,0,0,0,16,20,2,12,160,676,2560,0,272,0,0,0,0,0,20,2,0,0,0,0,0,0,0,0,8,0,0,0,4,148,0,40,1312,6,0,4,28,0,8,38,2,264,40,2,8,2,2,0,0,8,68,3,0,4,8,2,24,24,0,0,0,4,0,2,8,6,2,34,68,40,1104,256,72,144,32,136,532,6,0,0,0,0,0,0,0,0,0,0,0,4,64,80,0,80,2,38,44,8712,16,3,4,4,2,0,0,2,0,4,4,4,8,48,0,20,3,52,4,20512,320,1640,4,114,0,0,0,84,132,256,0,8,2128,352,1336,0,0,0,0,0,25216,16,276,4,72,8,4,16,0,8,32,0,72,0,136,512,136,0,1024,0,3328,8,4,8,0,4,0,32,16,11024,264,0,10,36,8,0,1160,0,4,4808,1,0,2312,0,2,2,80,20628,6,0,4,20,2,6,1072,8,8,72,8,10,0,6,164,20,20,0,42,32,4,4,36,36,18,0,0,0,322,0,1044,320,4,68,22,42,0,0,8,66,0,132,0,0,0,168,0,32,0,0,320,148,40,0,0,0,68,0,0,64,0,34,0,32,2,128,0,0,68,4,136,164,136,0,0,0,0,0,0,0,0,0,0,0,0,0,0,0,0,0,0,0,0,0,0,0,0,0,0,0,0]
def cleanM:Nat:=5678427549370539159536430933691206212675768627626226661004415466634204157015466645655922844598808755784276739814887153530556013277596
end Go.AI
/- The lower chapters' examples, reckoned by the kernel. -/
namespace Go.AI
open Go.Proofs
variable {E:Ext} {W0:World}
def escT (f s:Nat):Bool:=!(Nat.beq (Nat.land (Nat.shiftRight (stayL.getD f 0) s) 1) 1)
def cleanT (f:Nat):Bool:=Nat.beq (Nat.land (Nat.shiftRight cleanM f) 1) 1
noncomputable def F1:Nat → Option IFn:=mkFn PZ escT
theorem noEscE:Entry PZ 278 Extern.AbiNoEscape.same:=⟨_,Tryz.func278,rfl,by kernel_rfl,by kernel_rfl,_,rfl,fun _=>rfl⟩
theorem makeNZE:Entry PZ 279 (Extern.BytealgMakeNoZero.makeNoZero Tryz.f279.params Tryz.f279.resultTypes):=⟨_,Tryz.func279,rfl,by kernel_rfl,by kernel_rfl,_,rfl,fun _=>rfl⟩
abbrev HookF (X:Type):=Nat × (List Value → Hp X → Option (Value × Hp X))
def hB {X:Type}:List (HookF X):=[(278,noEscapeH),(279,makeNoZeroH 5),(166,tz64H),(165,tz32H)]
theorem hB_ok (hT:Tabs W0):∀ x ∈ hB (X:=E.X),HookOk E PZ W0 x.1 x.2:=by
 intro x hx
 simp only [hB,List.mem_cons,List.not_mem_nil,or_false] at hx
 rcases hx with rfl | rfl | rfl | rfl
 ·exact noEscape_ok noEscE
 ·exact makeNoZero_ok makeNZE (s:=110) (by kernel_rfl) Tryz.underlying110
 ·exact tz64_ok Tryz.lays29 rfl tz64B hT.t64 hT.l64
 ·exact tz32_ok Tryz.lays28 rfl tz32B hT.t32 hT.l32
theorem more_ok {l:List (HookF E.X)} (h:∀ x ∈ l,HookOk E PZ W0 x.1 x.2) {k:Nat} {g:List Value → Hp E.X → Option (Value × Hp E.X)} (hg:HookOk E PZ W0 k g):∀ x ∈ (k,g) :: l,HookOk E PZ W0 x.1 x.2:=by
 intro x hx
 rcases List.mem_cons.1 hx with rfl | hx
 ·exact hg
 ·exact h x hx
theorem awake_ok {l:List (HookF E.X)} (h:∀ x ∈ l,HookOk E PZ W0 x.1 x.2) {F:Nat → Option IFn} {esc:Nat → Nat → Bool} (hF:F=mkFn PZ esc) {clean:Nat → Bool} {n k:Nat}
  (hv:runK F clean (hookL l) n k [] ⟨[],0⟩ (fun v _=>some (v,(⟨[],0⟩:Hp E.X)))=some (.bool true,(⟨[],0⟩:Hp E.X))):∀ x ∈ (k,constH (.bool true)) :: l,HookOk E PZ W0 x.1 x.2:=by
 subst hF
 exact more_ok h (true_ok (run_sound mixedZ (hookL_ok h) n) (run_of_value hv))
def h02a {X:Type}:List (HookF X):=(352,rowsH) :: hB
theorem h02a_ok (hT:Tabs W0):∀ x ∈ h02a (X:=E.X),HookOk E PZ W0 x.1 x.2:=more_ok (hB_ok hT) (rows_ok hT)
theorem e02 {X:Type}:runK F0 (fun _=>false) (hookL h02a) 100 328 [] ⟨[],0⟩ (fun v _=>some (v,(⟨[],0⟩:Hp X)))=some (.bool true,(⟨[],0⟩:Hp X)):=by kernel_rfl
def h02 {X:Type}:List (HookF X):=(328,constH (.bool true)) :: hB
theorem h02_ok (hT:Tabs W0):∀ x ∈ h02 (X:=E.X),HookOk E PZ W0 x.1 x.2 :=
 more_ok (hB_ok hT) (true_ok (run_sound (esc:=escAll) mixedZ (hookL_ok (h02a_ok hT)) 100) (run_of_value e02))
end Go.AI
