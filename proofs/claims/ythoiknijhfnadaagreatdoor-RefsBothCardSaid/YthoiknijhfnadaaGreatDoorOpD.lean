/- So many nodes made, reckoned by the kernel piece by piece. -/
import Derived.Test.YthoiknijhfnadaaGreatDoorKOp
set_option maxRecDepth 1000000
noncomputable section
namespace Go.AI
open Go.Proofs
theorem tO6_1(off:Nat)(acts:List Value):machS F1 cleanT (hookL h19a) 20000 (startM 1000 7 [vI 6] ⟨[(0,.ro off acts)],1⟩:Ms Ar)=some (sP1 6 off acts):=by kernel_rfl
theorem tO6_2(off:Nat)(acts:List Value):machS F1 cleanT (hookL h19a) 16000 (sP1 6 off acts)=some (sP2 6 off acts):=by kernel_rfl
def sO6(off:Nat)(acts:List Value):Ms Ar:=⟨1000,[],.norm,
 [(0,(.tuple (.mk [(.slice (some (.mk 3627 0 none)) 6 6),(.bool true)])))],
 ⟨[],
 [(3627,(.grown 12 44 (ap [(vp 241 0),(vp 2 0),(vi 8352),(vi 32),(vw 1),(vp 2 0),(vi 8352),(vi 32),(vi 1024),(vp 2 0),(vi 8224),(vi 992),(vp 241 0),(vp 2 0),(vi 12448),(vi 32),(vw 2),(vp 2 0),(vi 12448),(vi 32),(vi 1024),(vp 2 0),(vi 12320),(vi 992),(vp 241 0),(vp 2 0),(vi 16544),(vi 32),(vw 3),(vp 2 0),(vi 16544),(vi 32),(vi 1024),(vp 2 0),(vi 16416),(vi 992),(vp 241 0),(vp 2 0),(vi 20640),(vi 32),(vw 4),(vp 2 0),(vi 20640),(vi 32),(vi 1024),(vp 2 0),(vi 20512),(vi 992),(vp 241 0),(vp 2 0),(vi 24736),(vi 32),(vw 5),(vp 2 0),(vi 24736),(vi 32),(vi 1024),(vp 2 0),(vi 24608),(vi 992),(vp 241 0),(vp 2 0),(vi 28832),(vi 32),(vw 6),(vp 2 0),(vi 28832),(vi 32),(vi 1024),(vp 2 0),(vi 28704),(vi 992)] []))),(3626,oOx13),(3569,oOx17),(3512,oOx9),(3455,oOx7),(3398,oOx5),(3341,oOx4),(3285,(.grown 1 3 [(vi 8192),(vi 12288),(vi 16384),(vi 20480),(vi 24576),(vi 28672)])),(3284,(.cells [(vi 28672)])),(2778,(.cells [(vi 24576)])),(2272,(.cells [(vi 20480)])),(1766,(.cells [(vi 16384)])),(1260,(.cells [(vi 12288)])),(754,(.cells [(vi 8192)])),(249,oOx0),(241,oOx2),(231,oOx8),(230,(.cells [(vi 0),(vi 0),(.bool true)])),(3,oOx1),(2,(.ext (.mk (some 0x30303030303030000000000000000000000000000000000000000000000000000000000000000000000000000000000000000000000000000000000000000000000000000000000000000000000000000000000000000000000000000000000000000000000000000000000000000000000000000000000000000000000000000000000000000000000000000000000000000000000000059444455424c494d0000000000000007000000000000000000000000000000000000000000000000000000000000000000000000000000000000000000000000000000000000000000000000000000000000000000000000000000000000000000000000000000000000000000000000::some qOx0::some qOx1::some qOx2::some qOx3::some qOx4::some qOx5::some qOx6::none::none::n20) false 0))),(0,(.ro off acts))],3628⟩⟩
theorem tO6_3(off:Nat)(acts:List Value):machS F1 cleanT (hookL h19a) 18000 (sP2 6 off acts)=some (sO6 off acts):=by kernel_rfl
theorem oO6(off:Nat)(acts:List Value):NodesOk 6 off acts:=by
 have h0:=startM_den (F:=F1) (clean:=cleanT) (hook:=hookL h19a) 1000 7 [vI 6] (⟨[(0,.ro off acts)],1⟩:Hp Ar)
 rw[machS_den (tO6_1 off acts),machS_den (tO6_2 off acts),machS_den (tO6_3 off acts)] at h0
 exact⟨_,3627,_,_,h0.symm.trans (Ms.end_den rfl),rfl,rfl,rfl,zL rfl,zL rfl,by kernel_rfl⟩
theorem tO5_1(off:Nat)(acts:List Value):machS F1 cleanT (hookL h19a) 20000 (startM 1000 7 [vI 5] ⟨[(0,.ro off acts)],1⟩:Ms Ar)=some (sP1 5 off acts):=by kernel_rfl
def sO5(off:Nat)(acts:List Value):Ms Ar:=⟨1000,[],.norm,
 [(0,(.tuple (.mk [(.slice (some (.mk 3064 0 none)) 5 5),(.bool true)])))],
 ⟨[],
 [(3064,(.grown 12 44 (ap [(vp 241 0),(vp 2 0),(vi 8352),(vi 32),(vw 1),(vp 2 0),(vi 8352),(vi 32),(vi 1024),(vp 2 0),(vi 8224),(vi 992),(vp 241 0),(vp 2 0),(vi 12448),(vi 32),(vw 2),(vp 2 0),(vi 12448),(vi 32),(vi 1024),(vp 2 0),(vi 12320),(vi 992),(vp 241 0),(vp 2 0),(vi 16544),(vi 32),(vw 3),(vp 2 0),(vi 16544),(vi 32),(vi 1024),(vp 2 0),(vi 16416),(vi 992),(vp 241 0),(vp 2 0),(vi 20640),(vi 32),(vw 4),(vp 2 0),(vi 20640),(vi 32),(vi 1024),(vp 2 0),(vi 20512),(vi 992),(vp 241 0),(vp 2 0),(vi 24736),(vi 32),(vw 5),(vp 2 0),(vi 24736),(vi 32),(vi 1024),(vp 2 0),(vi 24608),(vi 992)] []))),(3063,oOx17),(3006,oOx9),(2949,oOx7),(2892,oOx5),(2835,oOx4),(2779,(.grown 1 3 [(vi 8192),(vi 12288),(vi 16384),(vi 20480),(vi 24576)])),(2778,(.cells [(vi 24576)])),(2272,(.cells [(vi 20480)])),(1766,(.cells [(vi 16384)])),(1260,(.cells [(vi 12288)])),(754,(.cells [(vi 8192)])),(249,oOx0),(241,oOx2),(231,oOx8),(230,(.cells [(vi 0),(vi 0),(.bool true)])),(3,oOx1),(2,(.ext (.mk (some 0x303030303030000000000000000000000000000000000000000000000000000000000000000000000000000000000000000000000000000000000000000000000000000000000000000000000000000000000000000000000000000000000000000000000000000000000000000000000000000000000000000000000000000000000000000000000000000000000000000000000000059444455424c494d0000000000000006000000000000000000000000000000000000000000000000000000000000000000000000000000000000000000000000000000000000000000000000000000000000000000000000000000000000000000000000000000000000000000000000::some qOx0::some qOx1::some qOx2::some qOx3::some qOx4::some qOx5::none::none::none::n20) false 0))),(0,(.ro off acts))],3065⟩⟩
theorem tO5_2(off:Nat)(acts:List Value):machS F1 cleanT (hookL h19a) 26000 (sP1 5 off acts)=some (sO5 off acts):=by kernel_rfl
theorem oO5(off:Nat)(acts:List Value):NodesOk 5 off acts:=by
 have h0:=startM_den (F:=F1) (clean:=cleanT) (hook:=hookL h19a) 1000 7 [vI 5] (⟨[(0,.ro off acts)],1⟩:Hp Ar)
 rw[machS_den (tO5_1 off acts),machS_den (tO5_2 off acts)] at h0
 exact⟨_,3064,_,_,h0.symm.trans (Ms.end_den rfl),rfl,rfl,rfl,zL rfl,zL rfl,by kernel_rfl⟩
theorem tO4_1(off:Nat)(acts:List Value):machS F1 cleanT (hookL h19a) 20000 (startM 1000 7 [vI 4] ⟨[(0,.ro off acts)],1⟩:Ms Ar)=some (sP1 4 off acts):=by kernel_rfl
def sO4(off:Nat)(acts:List Value):Ms Ar:=⟨1000,[],.norm,
 [(0,(.tuple (.mk [(.slice (some (.mk 2501 0 none)) 4 4),(.bool true)])))],
 ⟨[],
 [(2501,(.grown 12 44 (ap [(vp 241 0),(vp 2 0),(vi 8352),(vi 32),(vw 1),(vp 2 0),(vi 8352),(vi 32),(vi 1024),(vp 2 0),(vi 8224),(vi 992),(vp 241 0),(vp 2 0),(vi 12448),(vi 32),(vw 2),(vp 2 0),(vi 12448),(vi 32),(vi 1024),(vp 2 0),(vi 12320),(vi 992),(vp 241 0),(vp 2 0),(vi 16544),(vi 32),(vw 3),(vp 2 0),(vi 16544),(vi 32),(vi 1024),(vp 2 0),(vi 16416),(vi 992),(vp 241 0),(vp 2 0),(vi 20640),(vi 32),(vw 4),(vp 2 0),(vi 20640),(vi 32),(vi 1024),(vp 2 0),(vi 20512),(vi 992)] []))),(2500,oOx9),(2443,oOx7),(2386,oOx5),(2329,oOx4),(2273,oOx27),(2272,(.cells [(vi 20480)])),(1766,(.cells [(vi 16384)])),(1260,(.cells [(vi 12288)])),(754,(.cells [(vi 8192)])),(249,oOx0),(241,oOx2),(231,oOx8),(230,(.cells [(vi 0),(vi 0),(.bool true)])),(3,oOx1),(2,oOx12),(0,(.ro off acts))],2502⟩⟩
theorem tO4_2(off:Nat)(acts:List Value):machS F1 cleanT (hookL h19a) 18000 (sP1 4 off acts)=some (sO4 off acts):=by kernel_rfl
theorem oO4(off:Nat)(acts:List Value):NodesOk 4 off acts:=by
 have h0:=startM_den (F:=F1) (clean:=cleanT) (hook:=hookL h19a) 1000 7 [vI 4] (⟨[(0,.ro off acts)],1⟩:Hp Ar)
 rw[machS_den (tO4_1 off acts),machS_den (tO4_2 off acts)] at h0
 exact⟨_,2501,_,_,h0.symm.trans (Ms.end_den rfl),rfl,rfl,rfl,zL rfl,zL rfl,by kernel_rfl⟩
def sO3(off:Nat)(acts:List Value):Ms Ar:=⟨1000,[],.norm,
 [(0,(.tuple (.mk [(.slice (some (.mk 1938 0 none)) 3 3),(.bool true)])))],
 ⟨[],
 [(1938,(.grown 12 44 (ap [(vp 241 0),(vp 2 0),(vi 8352),(vi 32),(vw 1),(vp 2 0),(vi 8352),(vi 32),(vi 1024),(vp 2 0),(vi 8224),(vi 992),(vp 241 0),(vp 2 0),(vi 12448),(vi 32),(vw 2),(vp 2 0),(vi 12448),(vi 32),(vi 1024),(vp 2 0),(vi 12320),(vi 992),(vp 241 0),(vp 2 0),(vi 16544),(vi 32),(vw 3),(vp 2 0),(vi 16544),(vi 32),(vi 1024),(vp 2 0),(vi 16416),(vi 992)] []))),(1937,oOx7),(1880,oOx5),(1823,oOx4),(1767,(.grown 1 3 [(vi 8192),(vi 12288),(vi 16384)])),(1766,(.cells [(vi 16384)])),(1260,(.cells [(vi 12288)])),(754,(.cells [(vi 8192)])),(249,oOx0),(241,oOx2),(231,oOx8),(230,(.cells [(vi 0),(vi 0),(.bool true)])),(3,oOx1),(2,(.ext (.mk (some 0x30303030000000000000000000000000000000000000000000000000000000000000000000000000000000000000000000000000000000000000000000000000000000000000000000000000000000000000000000000000000000000000000000000000000000000000000000000000000000000000000000000000000000000000000000000000000000000000000000000000059444455424c494d0000000000000004000000000000000000000000000000000000000000000000000000000000000000000000000000000000000000000000000000000000000000000000000000000000000000000000000000000000000000000000000000000000000000000000::some qOx0::some qOx1::some qOx2::some qOx3::none::none::none::none::none::n20) false 0))),(0,(.ro off acts))],1939⟩⟩
theorem tO3_1(off:Nat)(acts:List Value):machS F1 cleanT (hookL h19a) 30000 (startM 1000 7 [vI 3] ⟨[(0,.ro off acts)],1⟩:Ms Ar)=some (sO3 off acts):=by kernel_rfl
theorem oO3(off:Nat)(acts:List Value):NodesOk 3 off acts:=by
 have h0:=startM_den (F:=F1) (clean:=cleanT) (hook:=hookL h19a) 1000 7 [vI 3] (⟨[(0,.ro off acts)],1⟩:Hp Ar)
 rw[machS_den (tO3_1 off acts)] at h0
 exact⟨_,1938,_,_,h0.symm.trans (Ms.end_den rfl),rfl,rfl,rfl,zL rfl,zL rfl,by kernel_rfl⟩
def sO2(off:Nat)(acts:List Value):Ms Ar:=⟨1000,[],.norm,
 [(0,(.tuple (.mk [(.slice (some (.mk 1375 0 none)) 2 2),(.bool true)])))],
 ⟨[],
 [(1375,(.grown 12 44 (ap [(vp 241 0),(vp 2 0),(vi 8352),(vi 32),(vw 1),(vp 2 0),(vi 8352),(vi 32),(vi 1024),(vp 2 0),(vi 8224),(vi 992),(vp 241 0),(vp 2 0),(vi 12448),(vi 32),(vw 2),(vp 2 0),(vi 12448),(vi 32),(vi 1024),(vp 2 0),(vi 12320),(vi 992)] []))),(1374,oOx5),(1317,oOx4),(1261,(.grown 1 3 [(vi 8192),(vi 12288)])),(1260,(.cells [(vi 12288)])),(754,(.cells [(vi 8192)])),(249,oOx0),(241,oOx2),(231,oOx8),(230,(.cells [(vi 0),(vi 0),(.bool true)])),(3,oOx1),(2,(.ext (.mk (some qOx9::some qOx0::some qOx1::some qOx2::none::none::none::none::none::none::n20) false 0))),(0,(.ro off acts))],1376⟩⟩
theorem tO2_1(off:Nat)(acts:List Value):machS F1 cleanT (hookL h19a) 22000 (startM 1000 7 [vI 2] ⟨[(0,.ro off acts)],1⟩:Ms Ar)=some (sO2 off acts):=by kernel_rfl
theorem oO2(off:Nat)(acts:List Value):NodesOk 2 off acts:=by
 have h0:=startM_den (F:=F1) (clean:=cleanT) (hook:=hookL h19a) 1000 7 [vI 2] (⟨[(0,.ro off acts)],1⟩:Hp Ar)
 rw[machS_den (tO2_1 off acts)] at h0
 exact⟨_,1375,_,_,h0.symm.trans (Ms.end_den rfl),rfl,rfl,rfl,zL rfl,zL rfl,by kernel_rfl⟩
def sO1(off:Nat)(acts:List Value):Ms Ar:=⟨1000,[],.norm,
 [(0,(.tuple (.mk [(.slice (some (.mk 812 0 none)) 1 1),(.bool true)])))],
 ⟨[],
 [(812,(.grown 12 44 (ap [(vp 241 0),(vp 2 0),(vi 8352),(vi 32),(vw 1),(vp 2 0),(vi 8352),(vi 32),(vi 1024),(vp 2 0),(vi 8224),(vi 992)] []))),(811,oOx4),(755,(.grown 1 3 [(vi 8192)])),(754,(.cells [(vi 8192)])),(249,oOx0),(241,oOx2),(231,oOx8),(230,(.cells [(vi 0),(vi 0),(.bool true)])),(3,oOx1),(2,(.ext (.mk (some 0x3030000000000000000000000000000000000000000000000000000000000000000000000000000000000000000000000000000000000000000000000000000000000000000000000000000000000000000000000000000000000000000000000000000000000000000000000000000000000000000000000000000000000000000000000000000000000000000000000000059444455424c494d0000000000000002000000000000000000000000000000000000000000000000000000000000000000000000000000000000000000000000000000000000000000000000000000000000000000000000000000000000000000000000000000000000000000000000::some qOx0::some qOx1::none::none::none::none::none::none::none::n20) false 0))),(0,(.ro off acts))],813⟩⟩
theorem tO1_1(off:Nat)(acts:List Value):machS F1 cleanT (hookL h19a) 16000 (startM 1000 7 [vI 1] ⟨[(0,.ro off acts)],1⟩:Ms Ar)=some (sO1 off acts):=by kernel_rfl
theorem oO1(off:Nat)(acts:List Value):NodesOk 1 off acts:=by
 have h0:=startM_den (F:=F1) (clean:=cleanT) (hook:=hookL h19a) 1000 7 [vI 1] (⟨[(0,.ro off acts)],1⟩:Hp Ar)
 rw[machS_den (tO1_1 off acts)] at h0
 exact⟨_,812,_,_,h0.symm.trans (Ms.end_den rfl),rfl,rfl,rfl,zL rfl,zL rfl,by kernel_rfl⟩
end Go.AI
