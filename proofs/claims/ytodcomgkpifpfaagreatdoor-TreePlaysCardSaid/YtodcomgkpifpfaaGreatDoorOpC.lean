/- So many nodes made, reckoned by the kernel piece by piece. -/
import Derived.Test.YtodcomgkpifpfaaGreatDoorKOp
set_option maxRecDepth 1000000
namespace Go.AI
open Go.Proofs
theorem tO9_1(off:Nat)(acts:List Value):machS F1 cleanT (hookL h19a) 20000 (startM 1000 6 [vI 9] ⟨[(0,.ro off acts)],1⟩:Ms Ar)=some (sP1 9 off acts):=by kernel_rfl
theorem tO9_2(off:Nat)(acts:List Value):machS F1 cleanT (hookL h19a) 16000 (sP1 9 off acts)=some (sP2 9 off acts):=by kernel_rfl
theorem tO9_3(off:Nat)(acts:List Value):machS F1 cleanT (hookL h19a) 28000 (sP2 9 off acts)=some (sP3 9 off acts):=by kernel_rfl
noncomputable def sO9(off:Nat)(acts:List Value):Ms Ar:=⟨1000,[],.norm,
 [(0,(.tuple (.mk [(vp 249 0),vOx48,(.bool true)])))],
 ⟨[],
 [(4803,(.grown 1 3 [(vi 8192),(vi 12288),(vi 16384),(vi 20480),(vi 24576),(vi 28672),(vi 32768),(vi 36864),(vi 40960)])),(4802,(.cells [(vi 40960)])),(4296,(.cells [(vi 36864)])),(3790,(.cells [(vi 32768)])),(3284,(.cells [(vi 28672)])),(2778,(.cells [(vi 24576)])),(2272,(.cells [(vi 20480)])),(1766,(.cells [(vi 16384)])),(1260,(.cells [(vi 12288)])),(754,(.cells [(vi 8192)])),(249,oOx0),(241,oOx2),(231,oOx5),(230,(.cells [(vi 0),(vi 0),(.bool true)])),(3,oOx1),(2,(.ext (.mk (some 0x30303030303030303030000000000000000000000000000000000000000000000000000000000000000000000000000000000000000000000000000000000000000000000000000000000000000000000000000000000000000000000000000000000000000000000000000000000000000000000000000000000000000000000000000000000000000000000000000000000000000000000000059444455424c494d000000000000000a000000000000000000000000000000000000000000000000000000000000000000000000000000000000000000000000000000000000000000000000000000000000000000000000000000000000000000000000000000000000000000000000::some qOx0::some qOx1::some qOx2::some qOx3::some qOx4::some qOx5::some qOx6::some qOx7::some qOx11::some qOx13::none::none::none::n16) false 0))),(0,(.ro off acts))],4804⟩⟩
theorem tO9_4(off:Nat)(acts:List Value):machS F1 cleanT (hookL h19a) 16000 (sP3 9 off acts)=some (sO9 off acts):=by kernel_rfl
theorem oO9(off:Nat)(acts:List Value):OpenOk 9 off acts:=by
 have h0:=startM_den (F:=F1) (clean:=cleanT) (hook:=hookL h19a) 1000 6 [vI 9] (⟨[(0,.ro off acts)],1⟩:Hp Ar)
 rw[machS_den (tO9_1 off acts),machS_den (tO9_2 off acts),machS_den (tO9_3 off acts),machS_den (tO9_4 off acts)] at h0
 exact⟨_,[8192,12288,16384,20480,24576,28672,32768,36864,40960],4803,_,_,_,h0.symm.trans (Ms.end_den rfl),rfl,rfl,rfl,rfl,rfl,rfl,zL rfl,zL rfl,by kernel_rfl,by kernel_rfl,rfl,by decide⟩
theorem tO8_1(off:Nat)(acts:List Value):machS F1 cleanT (hookL h19a) 20000 (startM 1000 6 [vI 8] ⟨[(0,.ro off acts)],1⟩:Ms Ar)=some (sP1 8 off acts):=by kernel_rfl
theorem tO8_2(off:Nat)(acts:List Value):machS F1 cleanT (hookL h19a) 16000 (sP1 8 off acts)=some (sP2 8 off acts):=by kernel_rfl
theorem tO8_3(off:Nat)(acts:List Value):machS F1 cleanT (hookL h19a) 28000 (sP2 8 off acts)=some (sP3 8 off acts):=by kernel_rfl
noncomputable def sO8(off:Nat)(acts:List Value):Ms Ar:=⟨1000,[],.norm,
 [(0,(.tuple (.mk [(vp 249 0),vOx49,(.bool true)])))],
 ⟨[],
 [(4297,(.grown 1 3 [(vi 8192),(vi 12288),(vi 16384),(vi 20480),(vi 24576),(vi 28672),(vi 32768),(vi 36864)])),(4296,(.cells [(vi 36864)])),(3790,(.cells [(vi 32768)])),(3284,(.cells [(vi 28672)])),(2778,(.cells [(vi 24576)])),(2272,(.cells [(vi 20480)])),(1766,(.cells [(vi 16384)])),(1260,(.cells [(vi 12288)])),(754,(.cells [(vi 8192)])),(249,oOx0),(241,oOx2),(231,oOx5),(230,(.cells [(vi 0),(vi 0),(.bool true)])),(3,oOx1),(2,(.ext (.mk (some qOx8::some qOx0::some qOx1::some qOx2::some qOx3::some qOx4::some qOx5::some qOx6::some qOx7::some qOx11::n20) false 0))),(0,(.ro off acts))],4298⟩⟩
theorem tO8_4(off:Nat)(acts:List Value):machS F1 cleanT (hookL h19a) 16000 (sP3 8 off acts)=some (sO8 off acts):=by kernel_rfl
theorem oO8(off:Nat)(acts:List Value):OpenOk 8 off acts:=by
 have h0:=startM_den (F:=F1) (clean:=cleanT) (hook:=hookL h19a) 1000 6 [vI 8] (⟨[(0,.ro off acts)],1⟩:Hp Ar)
 rw[machS_den (tO8_1 off acts),machS_den (tO8_2 off acts),machS_den (tO8_3 off acts),machS_den (tO8_4 off acts)] at h0
 exact⟨_,[8192,12288,16384,20480,24576,28672,32768,36864],4297,_,_,_,h0.symm.trans (Ms.end_den rfl),rfl,rfl,rfl,rfl,rfl,rfl,zL rfl,zL rfl,by kernel_rfl,by kernel_rfl,rfl,by decide⟩
end Go.AI
