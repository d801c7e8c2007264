/- So many nodes made, reckoned by the kernel piece by piece. -/
import Derived.Test.YtohdfkipbgnkoaaGreatDoorKOp
set_option maxRecDepth 1000000
namespace Go.AI
open Go.Proofs
theorem Ln(off:Nat)(acts:List Value):bQ F1 ac (ab cr) 20000 (eF 1000 5 [vI 12] ⟨[(0,.ro off acts)],1⟩:Ms Ar)=some (sP1 12 off acts):=by kernel_rfl
theorem MJ(off:Nat)(acts:List Value):bQ F1 ac (ab cr) 16000 (sP1 12 off acts)=some (sP2 12 off acts):=by kernel_rfl
theorem MN(off:Nat)(acts:List Value):bQ F1 ac (ab cr) 28000 (sP2 12 off acts)=some (sP3 12 off acts):=by kernel_rfl
theorem Mb(off:Nat)(acts:List Value):bQ F1 ac (ab cr) 22000 (sP3 12 off acts)=some (sP4 12 off acts):=by kernel_rfl
noncomputable def Qi(off:Nat)(acts:List Value):Ms Ar:=⟨1000,[],.norm,
 [(0,(.tuple (.mk [(vp 249 0),(.slice (some (.mk 6321 0 none)) 12 12),(.bool true)])))],
 ⟨[],
 [(6321,(.grown 1 3 (ap [(vi 8192),(vi 12288),(vi 16384),(vi 20480),(vi 24576),(vi 28672),(vi 32768),(vi 36864),(vi 40960),(vi 45056),(vi 49152),(vi 53248)] []))),(6320,(.cells [(vi 53248)])),(5814,(.cells [(vi 49152)])),(5308,(.cells [(vi 45056)])),(4802,(.cells [(vi 40960)])),(4296,(.cells [(vi 36864)])),(3790,(.cells [(vi 32768)])),(3284,(.cells [(vi 28672)])),(2778,(.cells [(vi 24576)])),(2272,(.cells [(vi 20480)])),(1766,(.cells [(vi 16384)])),(1260,(.cells [(vi 12288)])),(754,(.cells [(vi 8192)])),(249,gZ),(241,hJ),(231,g8),(230,(.cells [(vi 0),(vi 0),(.bool true)])),(3,gY),(2,(.ext (.mk (some 0x30303030303030303030303030000000000000000000000000000000000000000000000000000000000000000000000000000000000000000000000000000000000000000000000000000000000000000000000000000000000000000000000000000000000000000000000000000000000000000000000000000000000000000000000000000000000000000000000000000000000000000000000000059444455424c494d000000000000000d000000000000000000000000000000000000000000000000000000000000000000000000000000000000000000000000000000000000000000000000000000000000000000000000000000000000000000000000000000000000000000000000::some ly::some ls::some mD::some ot::some ph::some pP::some rY::some tT::some sJ::some wy::some AF::some J1::some 0x6e01000000000000000000000000000000000000000000000000000000000000d000000000000000000000000000000000000000000045444f4e000000000000000000000000000000000000000000000000000000000000000000000000000000000000000000000000000000000000000000000000000000000000000000000000000000000000000000000000000000000000000000000000000000000000000c00000000000000000000000000000000000000000000000c000000004b4e4843::n16) false 0))),(0,(.ro off acts))],6322⟩⟩
theorem Mp(off:Nat)(acts:List Value):bQ F1 ac (ab cr) 16000 (sP4 12 off acts)=some (Qi off acts):=by kernel_rfl
theorem Ps(off:Nat)(acts:List Value):fc 12 off acts:=by
 have h0:=bU (F:=F1) (clean:=ac) (hook:=ab cr) 1000 5 [vI 12] (⟨[(0,.ro off acts)],1⟩:Hp Ar);rw[aE (Ln off acts),aE (MJ off acts),aE (MN off acts),aE (Mb off acts),aE (Mp off acts)] at h0;exact⟨_,[8192,12288,16384,20480,24576,28672,32768,36864,40960,45056,49152,53248],6321,_,_,_,h0.symm.trans (Ms.a rfl),rfl,rfl,rfl,rfl,rfl,rfl,zL rfl,zL rfl,by kernel_rfl,by kernel_rfl,by kernel_rfl,rfl,by decide⟩
theorem OP(off:Nat)(acts:List Value):bQ F1 ac (ab cr) 20000 (eF 1000 5 [vI 7] ⟨[(0,.ro off acts)],1⟩:Ms Ar)=some (sP1 7 off acts):=by kernel_rfl
theorem Nk(off:Nat)(acts:List Value):bQ F1 ac (ab cr) 16000 (sP1 7 off acts)=some (sP2 7 off acts):=by kernel_rfl
noncomputable def sO7(off:Nat)(acts:List Value):Ms Ar:=⟨1000,[],.norm,
 [(0,(.tuple (.mk [(vp 249 0),te,(.bool true)])))],
 ⟨[],
 [(3791,Fv),(3790,(.cells [(vi 32768)])),(3284,(.cells [(vi 28672)])),(2778,(.cells [(vi 24576)])),(2272,(.cells [(vi 20480)])),(1766,(.cells [(vi 16384)])),(1260,(.cells [(vi 12288)])),(754,(.cells [(vi 8192)])),(249,gZ),(241,hJ),(231,g8),(230,(.cells [(vi 0),(vi 0),(.bool true)])),(3,gY),(2,(.ext (.mk (some 0x3030303030303030000000000000000000000000000000000000000000000000000000000000000000000000000000000000000000000000000000000000000000000000000000000000000000000000000000000000000000000000000000000000000000000000000000000000000000000000000000000000000000000000000000000000000000000000000000000000000000000000059444455424c494d0000000000000008000000000000000000000000000000000000000000000000000000000000000000000000000000000000000000000000000000000000000000000000000000000000000000000000000000000000000000000000000000000000000000000000::some ly::some ls::some mD::some ot::some ph::some pP::some rY::some tT::none::n20) false 0))),(0,(.ro off acts))],3792⟩⟩
theorem Ny(off:Nat)(acts:List Value):bQ F1 ac (ab cr) 24000 (sP2 7 off acts)=some (sO7 off acts):=by kernel_rfl
theorem oO7(off:Nat)(acts:List Value):fc 7 off acts:=by
 have h0:=bU (F:=F1) (clean:=ac) (hook:=ab cr) 1000 5 [vI 7] (⟨[(0,.ro off acts)],1⟩:Hp Ar);rw[aE (OP off acts),aE (Nk off acts),aE (Ny off acts)] at h0;exact⟨_,[8192,12288,16384,20480,24576,28672,32768],3791,_,_,_,h0.symm.trans (Ms.a rfl),rfl,rfl,rfl,rfl,rfl,rfl,zL rfl,zL rfl,by kernel_rfl,by kernel_rfl,by kernel_rfl,rfl,by decide⟩
end Go.AI
