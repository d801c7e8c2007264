/- So many nodes made, reckoned by the kernel piece by piece. -/
import Derived.Test.YtodcomgkpifpfaaGreatDoorKOp
set_option maxRecDepth 1000000
noncomputable section
namespace Go.AI
open Go.Proofs
theorem tO6_1(off:Nat)(acts:List Value):machS F1 cleanT (hookL h19a) 20000 (startM 1000 6 [vI 6] ⟨[(0,.ro off acts)],1⟩:Ms Ar)=some (sP1 6 off acts):=by kernel_rfl
theorem tO6_2(off:Nat)(acts:List Value):machS F1 cleanT (hookL h19a) 16000 (sP1 6 off acts)=some (sP2 6 off acts):=by kernel_rfl
def sO6(off:Nat)(acts:List Value):Ms Ar:=⟨1000,[],.norm,
 [(0,(.tuple (.mk [(vp 249 0),vOx38,(.bool true)])))],
 ⟨[],
 [(3285,(.grown 1 3 [(vi 8192),(vi 12288),(vi 16384),(vi 20480),(vi 24576),(vi 28672)])),(3284,(.cells [(vi 28672)])),(2778,(.cells [(vi 24576)])),(2272,(.cells [(vi 20480)])),(1766,(.cells [(vi 16384)])),(1260,(.cells [(vi 12288)])),(754,(.cells [(vi 8192)])),(249,oOx0),(241,oOx2),(231,oOx5),(230,(.cells [(vi 0),(vi 0),(.bool true)])),(3,oOx1),(2,(.ext (.mk (some 0x30303030303030000000000000000000000000000000000000000000000000000000000000000000000000000000000000000000000000000000000000000000000000000000000000000000000000000000000000000000000000000000000000000000000000000000000000000000000000000000000000000000000000000000000000000000000000000000000000000000000000059444455424c494d0000000000000007000000000000000000000000000000000000000000000000000000000000000000000000000000000000000000000000000000000000000000000000000000000000000000000000000000000000000000000000000000000000000000000000::some qOx0::some qOx1::some qOx2::some qOx3::some qOx4::some qOx5::some qOx6::none::none::n20) false 0))),(0,(.ro off acts))],3286⟩⟩
theorem tO6_3(off:Nat)(acts:List Value):machS F1 cleanT (hookL h19a) 16000 (sP2 6 off acts)=some (sO6 off acts):=by kernel_rfl
theorem oO6(off:Nat)(acts:List Value):OpenOk 6 off acts:=by
 have h0:=startM_den (F:=F1) (clean:=cleanT) (hook:=hookL h19a) 1000 6 [vI 6] (⟨[(0,.ro off acts)],1⟩:Hp Ar)
 rw[machS_den (tO6_1 off acts),machS_den (tO6_2 off acts),machS_den (tO6_3 off acts)] at h0
 exact⟨_,[8192,12288,16384,20480,24576,28672],3285,_,_,_,h0.symm.trans (Ms.end_den rfl),rfl,rfl,rfl,rfl,rfl,rfl,zL rfl,zL rfl,by kernel_rfl,by kernel_rfl,rfl,by decide⟩
theorem tO5_1(off:Nat)(acts:List Value):machS F1 cleanT (hookL h19a) 20000 (startM 1000 6 [vI 5] ⟨[(0,.ro off acts)],1⟩:Ms Ar)=some (sP1 5 off acts):=by kernel_rfl
def sO5(off:Nat)(acts:List Value):Ms Ar:=⟨1000,[],.norm,
 [(0,(.tuple (.mk [(vp 249 0),(.slice (some (.mk 2779 0 none)) 5 5),(.bool true)])))],
 ⟨[],
 [(2779,(.grown 1 3 [(vi 8192),(vi 12288),(vi 16384),(vi 20480),(vi 24576)])),(2778,(.cells [(vi 24576)])),(2272,(.cells [(vi 20480)])),(1766,(.cells [(vi 16384)])),(1260,(.cells [(vi 12288)])),(754,(.cells [(vi 8192)])),(249,oOx0),(241,oOx2),(231,oOx5),(230,(.cells [(vi 0),(vi 0),(.bool true)])),(3,oOx1),(2,(.ext (.mk (some 0x303030303030000000000000000000000000000000000000000000000000000000000000000000000000000000000000000000000000000000000000000000000000000000000000000000000000000000000000000000000000000000000000000000000000000000000000000000000000000000000000000000000000000000000000000000000000000000000000000000000000059444455424c494d0000000000000006000000000000000000000000000000000000000000000000000000000000000000000000000000000000000000000000000000000000000000000000000000000000000000000000000000000000000000000000000000000000000000000000::some qOx0::some qOx1::some qOx2::some qOx3::some qOx4::some qOx5::none::none::none::n20) false 0))),(0,(.ro off acts))],2780⟩⟩
theorem tO5_2(off:Nat)(acts:List Value):machS F1 cleanT (hookL h19a) 24000 (sP1 5 off acts)=some (sO5 off acts):=by kernel_rfl
theorem oO5(off:Nat)(acts:List Value):OpenOk 5 off acts:=by
 have h0:=startM_den (F:=F1) (clean:=cleanT) (hook:=hookL h19a) 1000 6 [vI 5] (⟨[(0,.ro off acts)],1⟩:Hp Ar)
 rw[machS_den (tO5_1 off acts),machS_den (tO5_2 off acts)] at h0
 exact⟨_,[8192,12288,16384,20480,24576],2779,_,_,_,h0.symm.trans (Ms.end_den rfl),rfl,rfl,rfl,rfl,rfl,rfl,zL rfl,zL rfl,by kernel_rfl,by kernel_rfl,rfl,by decide⟩
theorem tO4_1(off:Nat)(acts:List Value):machS F1 cleanT (hookL h19a) 20000 (startM 1000 6 [vI 4] ⟨[(0,.ro off acts)],1⟩:Ms Ar)=some (sP1 4 off acts):=by kernel_rfl
def sO4(off:Nat)(acts:List Value):Ms Ar:=⟨1000,[],.norm,
 [(0,(.tuple (.mk [(vp 249 0),vOx25,(.bool true)])))],
 ⟨[],
 [(2273,oOx22),(2272,(.cells [(vi 20480)])),(1766,(.cells [(vi 16384)])),(1260,(.cells [(vi 12288)])),(754,(.cells [(vi 8192)])),(249,oOx0),(241,oOx2),(231,oOx5),(230,(.cells [(vi 0),(vi 0),(.bool true)])),(3,oOx1),(2,oOx10),(0,(.ro off acts))],2274⟩⟩
theorem tO4_2(off:Nat)(acts:List Value):machS F1 cleanT (hookL h19a) 16000 (sP1 4 off acts)=some (sO4 off acts):=by kernel_rfl
theorem oO4(off:Nat)(acts:List Value):OpenOk 4 off acts:=by
 have h0:=startM_den (F:=F1) (clean:=cleanT) (hook:=hookL h19a) 1000 6 [vI 4] (⟨[(0,.ro off acts)],1⟩:Hp Ar)
 rw[machS_den (tO4_1 off acts),machS_den (tO4_2 off acts)] at h0
 exact⟨_,[8192,12288,16384,20480],2273,_,_,_,h0.symm.trans (Ms.end_den rfl),rfl,rfl,rfl,rfl,rfl,rfl,zL rfl,zL rfl,by kernel_rfl,by kernel_rfl,rfl,by decide⟩
def sO3(off:Nat)(acts:List Value):Ms Ar:=⟨1000,[],.norm,
 [(0,(.tuple (.mk [(vp 249 0),vOx17,(.bool true)])))],
 ⟨[],
 [(1767,(.grown 1 3 [(vi 8192),(vi 12288),(vi 16384)])),(1766,(.cells [(vi 16384)])),(1260,(.cells [(vi 12288)])),(754,(.cells [(vi 8192)])),(249,oOx0),(241,oOx2),(231,oOx5),(230,(.cells [(vi 0),(vi 0),(.bool true)])),(3,oOx1),(2,(.ext (.mk (some 0x30303030000000000000000000000000000000000000000000000000000000000000000000000000000000000000000000000000000000000000000000000000000000000000000000000000000000000000000000000000000000000000000000000000000000000000000000000000000000000000000000000000000000000000000000000000000000000000000000000000059444455424c494d0000000000000004000000000000000000000000000000000000000000000000000000000000000000000000000000000000000000000000000000000000000000000000000000000000000000000000000000000000000000000000000000000000000000000000::some qOx0::some qOx1::some qOx2::some qOx3::none::none::none::none::none::n20) false 0))),(0,(.ro off acts))],1768⟩⟩
theorem tO3_1(off:Nat)(acts:List Value):machS F1 cleanT (hookL h19a) 28000 (startM 1000 6 [vI 3] ⟨[(0,.ro off acts)],1⟩:Ms Ar)=some (sO3 off acts):=by kernel_rfl
theorem oO3(off:Nat)(acts:List Value):OpenOk 3 off acts:=by
 have h0:=startM_den (F:=F1) (clean:=cleanT) (hook:=hookL h19a) 1000 6 [vI 3] (⟨[(0,.ro off acts)],1⟩:Hp Ar)
 rw[machS_den (tO3_1 off acts)] at h0
 exact⟨_,[8192,12288,16384],1767,_,_,_,h0.symm.trans (Ms.end_den rfl),rfl,rfl,rfl,rfl,rfl,rfl,zL rfl,zL rfl,by kernel_rfl,by kernel_rfl,rfl,by decide⟩
def sO2(off:Nat)(acts:List Value):Ms Ar:=⟨1000,[],.norm,
 [(0,(.tuple (.mk [(vp 249 0),vOx18,(.bool true)])))],
 ⟨[],
 [(1261,(.grown 1 3 [(vi 8192),(vi 12288)])),(1260,(.cells [(vi 12288)])),(754,(.cells [(vi 8192)])),(249,oOx0),(241,oOx2),(231,oOx5),(230,(.cells [(vi 0),(vi 0),(.bool true)])),(3,oOx1),(2,(.ext (.mk (some qOx9::some qOx0::some qOx1::some qOx2::none::none::none::none::none::none::n20) false 0))),(0,(.ro off acts))],1262⟩⟩
theorem tO2_1(off:Nat)(acts:List Value):machS F1 cleanT (hookL h19a) 22000 (startM 1000 6 [vI 2] ⟨[(0,.ro off acts)],1⟩:Ms Ar)=some (sO2 off acts):=by kernel_rfl
theorem oO2(off:Nat)(acts:List Value):OpenOk 2 off acts:=by
 have h0:=startM_den (F:=F1) (clean:=cleanT) (hook:=hookL h19a) 1000 6 [vI 2] (⟨[(0,.ro off acts)],1⟩:Hp Ar)
 rw[machS_den (tO2_1 off acts)] at h0
 exact⟨_,[8192,12288],1261,_,_,_,h0.symm.trans (Ms.end_den rfl),rfl,rfl,rfl,rfl,rfl,rfl,zL rfl,zL rfl,by kernel_rfl,by kernel_rfl,rfl,by decide⟩
def sO1(off:Nat)(acts:List Value):Ms Ar:=⟨1000,[],.norm,
 [(0,(.tuple (.mk [(vp 249 0),vOx11,(.bool true)])))],
 ⟨[],
 [(755,(.grown 1 3 [(vi 8192)])),(754,(.cells [(vi 8192)])),(249,oOx0),(241,oOx2),(231,oOx5),(230,(.cells [(vi 0),(vi 0),(.bool true)])),(3,oOx1),(2,(.ext (.mk (some 0x3030000000000000000000000000000000000000000000000000000000000000000000000000000000000000000000000000000000000000000000000000000000000000000000000000000000000000000000000000000000000000000000000000000000000000000000000000000000000000000000000000000000000000000000000000000000000000000000000000059444455424c494d0000000000000002000000000000000000000000000000000000000000000000000000000000000000000000000000000000000000000000000000000000000000000000000000000000000000000000000000000000000000000000000000000000000000000000::some qOx0::some qOx1::none::none::none::none::none::none::none::n20) false 0))),(0,(.ro off acts))],756⟩⟩
theorem tO1_1(off:Nat)(acts:List Value):machS F1 cleanT (hookL h19a) 16000 (startM 1000 6 [vI 1] ⟨[(0,.ro off acts)],1⟩:Ms Ar)=some (sO1 off acts):=by kernel_rfl
theorem oO1(off:Nat)(acts:List Value):OpenOk 1 off acts:=by
 have h0:=startM_den (F:=F1) (clean:=cleanT) (hook:=hookL h19a) 1000 6 [vI 1] (⟨[(0,.ro off acts)],1⟩:Hp Ar)
 rw[machS_den (tO1_1 off acts)] at h0
 exact⟨_,[8192],755,_,_,_,h0.symm.trans (Ms.end_den rfl),rfl,rfl,rfl,rfl,rfl,rfl,zL rfl,zL rfl,by kernel_rfl,by kernel_rfl,rfl,by decide⟩
end Go.AI
