/- Which objects of a function nobody else sees, and which functions leave no new reference behind: tables made by a program; whatever they say, the evaluator is sound. -/
import Derived.Test.YtohdfkipbgnkoaaGreatDoorKFast
import Derived.Test.YtohdfkipbgnkoaaGreatDoorKHk
import Derived.Test.YtohdfkipbgnkoaaGreatDoorKRo
namespace Go.AI
def stayL:List Nat:=[0,0,0,45056,16,512,6,4,12,432,4,4,520,8,136,0,136,32,5376,2,72,72,4,20,1096,72,136,136,336,8,8,8,72,136,4,8,16,4,1160,320,1368,16,16,36,16,2,4,0,68,768,8,192,0,0,4,1104,8,36,4,272,0,0,4,4,0,8,80,0,20628,64,8,6,4,148,0,40,72,1312,6,8,0,4,0,0,34,4,28,0,8,8,0,64,136,3,12,0,0,8,8,0,0,0,0,1344,4,2,0,6,0,0,8,0,16,8,164,20,0,8,4,64,24,80,2,0,0,0,0,0,0,2,4,8,4,2,24,8,0,2,0,0,72,6,6,4,0,0,0,128,4,8,8,16,2,0,322,0,0,0,0,6,2,4,8,8,48,8,0,0,4,4,4,2,264,40,2,8,2,8,8,0,272,0,0,0,0,0,20,2,0,0,0,0,0,66,0,0,0,0,8,0,0,2,38,16,44,8712,16,3,4,32,4,4,36,36,18,0,0,0,0,0,0,0,0,0,256,0,2,8,38,0,84,320,4,0,68,22,42,0,0,80,0,2312,0,0,1072,168,0,0,42,32,0,0,32,320,148,40,0,0,68,0,0,0,2,0,68,114,132,0,0,64,0,34,1336,0,0,32,2,128,4,72,8,0,0,32,0,72,0,68,4,4,0,136,164,136,0,2,72,8,10,0,0,0,8,0,0,0,0,0,0,0,0,0,0,0,0,0,0,0,0,0,0,0,0,0,0,0,0,0,0,0]
def Lh:Nat:=1093625375994227428902131229400867797950953526268695385427692250086463879486993707000439452908256276
end Go.AI
namespace Go.AI
open Go.Proofs
variable {E:Ext}{W0:World}
def jR(f s:Nat):Bool:=!(Nat.beq (Nat.land (Nat.shiftRight (stayL.getD f 0) s) 1) 1)
def ac(f:Nat):Bool:=Nat.beq (Nat.land (Nat.shiftRight Lh f) 1) 1
noncomputable def F1:Nat→Option IFn:=Dt PZ jR
theorem FF:Entry PZ 223 Extern.AbiNoEscape.same:=⟨_,Tryz.func223,rfl,by kernel_rfl,by kernel_rfl,_,rfl,fun _=>rfl⟩
theorem Ii:Entry PZ 238 (Extern.BytealgMakeNoZero.makeNoZero Tryz.f238.params Tryz.f238.resultTypes):=⟨_,Tryz.func238,rfl,by kernel_rfl,by kernel_rfl,_,rfl,fun _=>rfl⟩
abbrev aK(X:Type):=Nat×(List Value→Hp X→Option (Value×Hp X))
def hB{X:Type}:List (aK X):=[(223,gm),(238,kJ 5),(183,Au),(182,zj)]
theorem JD(hT:Tabs W0):∀x∈hB (X:=E.X),aQ E PZ W0 x.1 x.2:=by
 intro x hx;simp only[hB,ZL,List.not_mem_nil,or_false] at hx;rcases hx with rfl|rfl|rfl|rfl
 ·exact oJ FF
 ·exact rV Ii (s:=153) (by kernel_rfl) Tryz.underlying153
 ·exact zr Tryz.lays29 rfl Ki hT.t64 hT.l64
 ·exact zm Tryz.lays28 rfl Kk hT.t32 hT.l32
theorem bk{l:List (aK E.X)}(h:∀x∈l,aQ E PZ W0 x.1 x.2){k:Nat}{g:List Value→Hp E.X→Option (Value×Hp E.X)}(hg:aQ E PZ W0 k g):∀x∈(k,g)::l,aQ E PZ W0 x.1 x.2:=by
 intro x hx;rcases List.mem_cons.1 hx with rfl|hx
 ·exact hg
 ·exact h x hx
theorem dz{l:List (aK E.X)}(h:∀x∈l,aQ E PZ W0 x.1 x.2){F:Nat→Option IFn}{esc:Nat→Nat→Bool}(hF:F=Dt PZ esc){clean:Nat→Bool}{n k:Nat}
  (hv:gX F clean (ab l) n k [] ⟨[],0⟩ (fun v _=>some (v,(⟨[],0⟩:Hp E.X)))=some (.bool true,(⟨[],0⟩:Hp E.X))):∀x∈(k,cB (.bool true))::l,aQ E PZ W0 x.1 x.2:=by
 subst hF;exact bk h (uI (eE j6 (f7 h) n) (mq hv))
def Ou{X:Type}:List (aK X):=(298,GQ)::hB
theorem Iu(hT:Tabs W0):∀x∈Ou (X:=E.X),aQ E PZ W0 x.1 x.2:=bk (JD hT) (Hu hT)
theorem e02{X:Type}:gX F0 (fun _=>false) (ab Ou) 100 294 [] ⟨[],0⟩ (fun v _=>some (v,(⟨[],0⟩:Hp X)))=some (.bool true,(⟨[],0⟩:Hp X)):=by kernel_rfl
def h02{X:Type}:List (aK X):=(294,cB (.bool true))::hB
theorem LM(hT:Tabs W0):∀x∈h02 (X:=E.X),aQ E PZ W0 x.1 x.2 :=
 bk (JD hT) (uI (eE (esc:=FT) j6 (f7 (Iu hT)) 100) (mq e02))
end Go.AI
