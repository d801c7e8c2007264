/- So many nodes made, reckoned by the kernel piece by piece. -/
import Derived.Test.YtohdfkipbgnkoaaGreatDoorKOp
set_option maxRecDepth 1000000
namespace Go.AI
open Go.Proofs
theorem L8(off:Nat)(acts:List Value):bQ F1 ac (ab cr) 20000 (eF 1000 5 [vI 11] ⟨[(0,.ro off acts)],1⟩:Ms Ar)=some (sP1 11 off acts):=by kernel_rfl
theorem Mf(off:Nat)(acts:List Value):bQ F1 ac (ab cr) 16000 (sP1 11 off acts)=some (sP2 11 off acts):=by kernel_rfl
theorem Mz(off:Nat)(acts:List Value):bQ F1 ac (ab cr) 28000 (sP2 11 off acts)=some (sP3 11 off acts):=by kernel_rfl
noncomputable def Px(off:Nat)(acts:List Value):Ms Ar:=⟨1000,[],.norm,
 [(0,(.tuple (.mk [(vp 249 0),(.slice (some (.mk 5815 0 none)) 11 11),(.bool true)])))],
 ⟨[],
 [(5815,(.grown 1 3 [(vi 8192),(vi 12288),(vi 16384),(vi 20480),(vi 24576),(vi 28672),(vi 32768),(vi 36864),(vi 40960),(vi 45056),(vi 49152)])),(5814,(.cells [(vi 49152)])),(5308,(.cells [(vi 45056)])),(4802,(.cells [(vi 40960)])),(4296,(.cells [(vi 36864)])),(3790,(.cells [(vi 32768)])),(3284,(.cells [(vi 28672)])),(2778,(.cells [(vi 24576)])),(2272,(.cells [(vi 20480)])),(1766,(.cells [(vi 16384)])),(1260,(.cells [(vi 12288)])),(754,(.cells [(vi 8192)])),(249,gZ),(241,hJ),(231,g8),(230,(.cells [(vi 0),(vi 0),(.bool true)])),(3,gY),(2,(.ext (.mk (some Jq::some ly::some ls::some mD::some ot::some ph::some pP::some rY::some tT::some sJ::some wy::some AF::some J1::none::n16) false 0))),(0,(.ro off acts))],5816⟩⟩
theorem KY(off:Nat)(acts:List Value):bQ F1 ac (ab cr) 26000 (sP3 11 off acts)=some (Px off acts):=by kernel_rfl
theorem Qj(off:Nat)(acts:List Value):fc 11 off acts:=by
 have h0:=bU (F:=F1) (clean:=ac) (hook:=ab cr) 1000 5 [vI 11] (⟨[(0,.ro off acts)],1⟩:Hp Ar);rw[aE (L8 off acts),aE (Mf off acts),aE (Mz off acts),aE (KY off acts)] at h0;exact⟨_,[8192,12288,16384,20480,24576,28672,32768,36864,40960,45056,49152],5815,_,_,_,h0.symm.trans (Ms.a rfl),rfl,rfl,rfl,rfl,rfl,rfl,zL rfl,zL rfl,by kernel_rfl,by kernel_rfl,by kernel_rfl,rfl,by decide⟩
theorem LL(off:Nat)(acts:List Value):bQ F1 ac (ab cr) 20000 (eF 1000 5 [vI 10] ⟨[(0,.ro off acts)],1⟩:Ms Ar)=some (sP1 10 off acts):=by kernel_rfl
theorem Ml(off:Nat)(acts:List Value):bQ F1 ac (ab cr) 16000 (sP1 10 off acts)=some (sP2 10 off acts):=by kernel_rfl
theorem Ks(off:Nat)(acts:List Value):bQ F1 ac (ab cr) 28000 (sP2 10 off acts)=some (sP3 10 off acts):=by kernel_rfl
noncomputable def Pt(off:Nat)(acts:List Value):Ms Ar:=⟨1000,[],.norm,
 [(0,(.tuple (.mk [(vp 249 0),EM,(.bool true)])))],
 ⟨[],
 [(5309,vE),(5308,(.cells [(vi 45056)])),(4802,(.cells [(vi 40960)])),(4296,(.cells [(vi 36864)])),(3790,(.cells [(vi 32768)])),(3284,(.cells [(vi 28672)])),(2778,(.cells [(vi 24576)])),(2272,(.cells [(vi 20480)])),(1766,(.cells [(vi 16384)])),(1260,(.cells [(vi 12288)])),(754,(.cells [(vi 8192)])),(249,gZ),(241,hJ),(231,g8),(230,(.cells [(vi 0),(vi 0),(.bool true)])),(3,gY),(2,(.ext (.mk (some 0x3030303030303030303030000000000000000000000000000000000000000000000000000000000000000000000000000000000000000000000000000000000000000000000000000000000000000000000000000000000000000000000000000000000000000000000000000000000000000000000000000000000000000000000000000000000000000000000000000000000000000000000000059444455424c494d000000000000000b000000000000000000000000000000000000000000000000000000000000000000000000000000000000000000000000000000000000000000000000000000000000000000000000000000000000000000000000000000000000000000000000::some ly::some ls::some mD::some ot::some ph::some pP::some rY::some tT::some sJ::some wy::some AF::none::none::n16) false 0))),(0,(.ro off acts))],5310⟩⟩
theorem MW(off:Nat)(acts:List Value):bQ F1 ac (ab cr) 18000 (sP3 10 off acts)=some (Pt off acts):=by kernel_rfl
theorem Qo(off:Nat)(acts:List Value):fc 10 off acts:=by
 have h0:=bU (F:=F1) (clean:=ac) (hook:=ab cr) 1000 5 [vI 10] (⟨[(0,.ro off acts)],1⟩:Hp Ar);rw[aE (LL off acts),aE (Ml off acts),aE (Ks off acts),aE (MW off acts)] at h0;exact⟨_,[8192,12288,16384,20480,24576,28672,32768,36864,40960,45056],5309,_,_,_,h0.symm.trans (Ms.a rfl),rfl,rfl,rfl,rfl,rfl,rfl,zL rfl,zL rfl,by kernel_rfl,by kernel_rfl,by kernel_rfl,rfl,by decide⟩
end Go.AI
