/- So many nodes made, reckoned by the kernel piece by piece. -/
import Derived.Test.YtohdfkipbgnkoaaGreatDoorKOp
set_option maxRecDepth 1000000
namespace Go.AI
open Go.Proofs
theorem OV(off:Nat)(acts:List Value):bQ F1 ac (ab cr) 20000 (eF 1000 5 [vI 9] ⟨[(0,.ro off acts)],1⟩:Ms Ar)=some (sP1 9 off acts):=by kernel_rfl
theorem ON(off:Nat)(acts:List Value):bQ F1 ac (ab cr) 16000 (sP1 9 off acts)=some (sP2 9 off acts):=by kernel_rfl
theorem Ng(off:Nat)(acts:List Value):bQ F1 ac (ab cr) 28000 (sP2 9 off acts)=some (sP3 9 off acts):=by kernel_rfl
noncomputable def sO9(off:Nat)(acts:List Value):Ms Ar:=⟨1000,[],.norm,
 [(0,(.tuple (.mk [(vp 249 0),At,(.bool true)])))],
 ⟨[],
 [(4803,(.grown 1 3 [(vi 8192),(vi 12288),(vi 16384),(vi 20480),(vi 24576),(vi 28672),(vi 32768),(vi 36864),(vi 40960)])),(4802,(.cells [(vi 40960)])),(4296,(.cells [(vi 36864)])),(3790,(.cells [(vi 32768)])),(3284,(.cells [(vi 28672)])),(2778,(.cells [(vi 24576)])),(2272,(.cells [(vi 20480)])),(1766,(.cells [(vi 16384)])),(1260,(.cells [(vi 12288)])),(754,(.cells [(vi 8192)])),(249,gZ),(241,hJ),(231,g8),(230,(.cells [(vi 0),(vi 0),(.bool true)])),(3,gY),(2,(.ext (.mk (some 0x30303030303030303030000000000000000000000000000000000000000000000000000000000000000000000000000000000000000000000000000000000000000000000000000000000000000000000000000000000000000000000000000000000000000000000000000000000000000000000000000000000000000000000000000000000000000000000000000000000000000000000000059444455424c494d000000000000000a000000000000000000000000000000000000000000000000000000000000000000000000000000000000000000000000000000000000000000000000000000000000000000000000000000000000000000000000000000000000000000000000::some ly::some ls::some mD::some ot::some ph::some pP::some rY::some tT::some sJ::some wy::none::none::none::n16) false 0))),(0,(.ro off acts))],4804⟩⟩
theorem NA(off:Nat)(acts:List Value):bQ F1 ac (ab cr) 16000 (sP3 9 off acts)=some (sO9 off acts):=by kernel_rfl
theorem oO9(off:Nat)(acts:List Value):fc 9 off acts:=by
 have h0:=bU (F:=F1) (clean:=ac) (hook:=ab cr) 1000 5 [vI 9] (⟨[(0,.ro off acts)],1⟩:Hp Ar);rw[aE (OV off acts),aE (ON off acts),aE (Ng off acts),aE (NA off acts)] at h0;exact⟨_,[8192,12288,16384,20480,24576,28672,32768,36864,40960],4803,_,_,_,h0.symm.trans (Ms.a rfl),rfl,rfl,rfl,rfl,rfl,rfl,zL rfl,zL rfl,by kernel_rfl,by kernel_rfl,by kernel_rfl,rfl,by decide⟩
theorem O3(off:Nat)(acts:List Value):bQ F1 ac (ab cr) 20000 (eF 1000 5 [vI 8] ⟨[(0,.ro off acts)],1⟩:Ms Ar)=some (sP1 8 off acts):=by kernel_rfl
theorem Nq(off:Nat)(acts:List Value):bQ F1 ac (ab cr) 16000 (sP1 8 off acts)=some (sP2 8 off acts):=by kernel_rfl
theorem Nm(off:Nat)(acts:List Value):bQ F1 ac (ab cr) 28000 (sP2 8 off acts)=some (sP3 8 off acts):=by kernel_rfl
noncomputable def sO8(off:Nat)(acts:List Value):Ms Ar:=⟨1000,[],.norm,
 [(0,(.tuple (.mk [(vp 249 0),Al,(.bool true)])))],
 ⟨[],
 [(4297,(.grown 1 3 [(vi 8192),(vi 12288),(vi 16384),(vi 20480),(vi 24576),(vi 28672),(vi 32768),(vi 36864)])),(4296,(.cells [(vi 36864)])),(3790,(.cells [(vi 32768)])),(3284,(.cells [(vi 28672)])),(2778,(.cells [(vi 24576)])),(2272,(.cells [(vi 20480)])),(1766,(.cells [(vi 16384)])),(1260,(.cells [(vi 12288)])),(754,(.cells [(vi 8192)])),(249,gZ),(241,hJ),(231,g8),(230,(.cells [(vi 0),(vi 0),(.bool true)])),(3,gY),(2,(.ext (.mk (some LF::some ly::some ls::some mD::some ot::some ph::some pP::some rY::some tT::some sJ::n20) false 0))),(0,(.ro off acts))],4298⟩⟩
theorem OJ(off:Nat)(acts:List Value):bQ F1 ac (ab cr) 16000 (sP3 8 off acts)=some (sO8 off acts):=by kernel_rfl
theorem oO8(off:Nat)(acts:List Value):fc 8 off acts:=by
 have h0:=bU (F:=F1) (clean:=ac) (hook:=ab cr) 1000 5 [vI 8] (⟨[(0,.ro off acts)],1⟩:Hp Ar);rw[aE (O3 off acts),aE (Nq off acts),aE (Nm off acts),aE (OJ off acts)] at h0;exact⟨_,[8192,12288,16384,20480,24576,28672,32768,36864],4297,_,_,_,h0.symm.trans (Ms.a rfl),rfl,rfl,rfl,rfl,rfl,rfl,zL rfl,zL rfl,by kernel_rfl,by kernel_rfl,by kernel_rfl,rfl,by decide⟩
end Go.AI
