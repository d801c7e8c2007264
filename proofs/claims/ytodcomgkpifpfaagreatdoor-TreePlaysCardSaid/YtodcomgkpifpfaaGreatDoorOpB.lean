/- So many nodes made, reckoned by the kernel piece by piece. -/
import Derived.Test.YtodcomgkpifpfaaGreatDoorKOp
set_option maxRecDepth 1000000
namespace Go.AI
open Go.Proofs
theorem tO11_1(off:Nat)(acts:List Value):machS F1 cleanT (hookL h19a) 20000 (startM 1000 6 [vI 11] ⟨[(0,.ro off acts)],1⟩:Ms Ar)=some (sP1 11 off acts):=by kernel_rfl
theorem tO11_2(off:Nat)(acts:List Value):machS F1 cleanT (hookL h19a) 16000 (sP1 11 off acts)=some (sP2 11 off acts):=by kernel_rfl
theorem tO11_3(off:Nat)(acts:List Value):machS F1 cleanT (hookL h19a) 28000 (sP2 11 off acts)=some (sP3 11 off acts):=by kernel_rfl
noncomputable def sO11(off:Nat)(acts:List Value):Ms Ar:=⟨1000,[],.norm,
 [(0,(.tuple (.mk [(vp 249 0),(.slice (some (.mk 5815 0 none)) 11 11),(.bool true)])))],
 ⟨[],
 [(5815,(.grown 1 3 [(vi 8192),(vi 12288),(vi 16384),(vi 20480),(vi 24576),(vi 28672),(vi 32768),(vi 36864),(vi 40960),(vi 45056),(vi 49152)])),(5814,(.cells [(vi 49152)])),(5308,(.cells [(vi 45056)])),(4802,(.cells [(vi 40960)])),(4296,(.cells [(vi 36864)])),(3790,(.cells [(vi 32768)])),(3284,(.cells [(vi 28672)])),(2778,(.cells [(vi 24576)])),(2272,(.cells [(vi 20480)])),(1766,(.cells [(vi 16384)])),(1260,(.cells [(vi 12288)])),(754,(.cells [(vi 8192)])),(249,oOx0),(241,oOx2),(231,oOx5),(230,(.cells [(vi 0),(vi 0),(.bool true)])),(3,oOx1),(2,(.ext (.mk (some qOx15::some qOx0::some qOx1::some qOx2::some qOx3::some qOx4::some qOx5::some qOx6::some qOx7::some qOx11::some qOx13::some qOx14::some qOx16::none::n16) false 0))),(0,(.ro off acts))],5816⟩⟩
theorem tO11_4(off:Nat)(acts:List Value):machS F1 cleanT (hookL h19a) 26000 (sP3 11 off acts)=some (sO11 off acts):=by kernel_rfl
theorem oO11(off:Nat)(acts:List Value):OpenOk 11 off acts:=by
 have h0:=startM_den (F:=F1) (clean:=cleanT) (hook:=hookL h19a) 1000 6 [vI 11] (⟨[(0,.ro off acts)],1⟩:Hp Ar)
 rw[machS_den (tO11_1 off acts),machS_den (tO11_2 off acts),machS_den (tO11_3 off acts),machS_den (tO11_4 off acts)] at h0
 exact⟨_,[8192,12288,16384,20480,24576,28672,32768,36864,40960,45056,49152],5815,_,_,_,h0.symm.trans (Ms.end_den rfl),rfl,rfl,rfl,rfl,rfl,rfl,zL rfl,zL rfl,by kernel_rfl,by kernel_rfl,rfl,by decide⟩
theorem tO10_1(off:Nat)(acts:List Value):machS F1 cleanT (hookL h19a) 20000 (startM 1000 6 [vI 10] ⟨[(0,.ro off acts)],1⟩:Ms Ar)=some (sP1 10 off acts):=by kernel_rfl
theorem tO10_2(off:Nat)(acts:List Value):machS F1 cleanT (hookL h19a) 16000 (sP1 10 off acts)=some (sP2 10 off acts):=by kernel_rfl
theorem tO10_3(off:Nat)(acts:List Value):machS F1 cleanT (hookL h19a) 28000 (sP2 10 off acts)=some (sP3 10 off acts):=by kernel_rfl
noncomputable def sO10(off:Nat)(acts:List Value):Ms Ar:=⟨1000,[],.norm,
 [(0,(.tuple (.mk [(vp 249 0),vOx51,(.bool true)])))],
 ⟨[],
 [(5309,oOx18),(5308,(.cells [(vi 45056)])),(4802,(.cells [(vi 40960)])),(4296,(.cells [(vi 36864)])),(3790,(.cells [(vi 32768)])),(3284,(.cells [(vi 28672)])),(2778,(.cells [(vi 24576)])),(2272,(.cells [(vi 20480)])),(1766,(.cells [(vi 16384)])),(1260,(.cells [(vi 12288)])),(754,(.cells [(vi 8192)])),(249,oOx0),(241,oOx2),(231,oOx5),(230,(.cells [(vi 0),(vi 0),(.bool true)])),(3,oOx1),(2,(.ext (.mk (some 0x3030303030303030303030000000000000000000000000000000000000000000000000000000000000000000000000000000000000000000000000000000000000000000000000000000000000000000000000000000000000000000000000000000000000000000000000000000000000000000000000000000000000000000000000000000000000000000000000000000000000000000000000059444455424c494d000000000000000b000000000000000000000000000000000000000000000000000000000000000000000000000000000000000000000000000000000000000000000000000000000000000000000000000000000000000000000000000000000000000000000000::some qOx0::some qOx1::some qOx2::some qOx3::some qOx4::some qOx5::some qOx6::some qOx7::some qOx11::some qOx13::some qOx14::none::none::n16) false 0))),(0,(.ro off acts))],5310⟩⟩
theorem tO10_4(off:Nat)(acts:List Value):machS F1 cleanT (hookL h19a) 18000 (sP3 10 off acts)=some (sO10 off acts):=by kernel_rfl
theorem oO10(off:Nat)(acts:List Value):OpenOk 10 off acts:=by
 have h0:=startM_den (F:=F1) (clean:=cleanT) (hook:=hookL h19a) 1000 6 [vI 10] (⟨[(0,.ro off acts)],1⟩:Hp Ar)
 rw[machS_den (tO10_1 off acts),machS_den (tO10_2 off acts),machS_den (tO10_3 off acts),machS_den (tO10_4 off acts)] at h0
 exact⟨_,[8192,12288,16384,20480,24576,28672,32768,36864,40960,45056],5309,_,_,_,h0.symm.trans (Ms.end_den rfl),rfl,rfl,rfl,rfl,rfl,rfl,zL rfl,zL rfl,by kernel_rfl,by kernel_rfl,rfl,by decide⟩
end Go.AI
