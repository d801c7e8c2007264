/- So many nodes made, reckoned by the kernel piece by piece. -/
import Derived.Test.YtohdfkipbgnkoaaGreatDoorKOp
set_option maxRecDepth 1000000
noncomputable section
namespace Go.AI
open Go.Proofs
theorem NK(off:Nat)(acts:List Value):bQ F1 ac (ab cr) 20000 (eF 1000 5 [vI 6] ⟨[(0,.ro off acts)],1⟩:Ms Ar)=some (sP1 6 off acts):=by kernel_rfl
theorem Ni(off:Nat)(acts:List Value):bQ F1 ac (ab cr) 16000 (sP1 6 off acts)=some (sP2 6 off acts):=by kernel_rfl
def sO6(off:Nat)(acts:List Value):Ms Ar:=⟨1000,[],.norm,
 [(0,(.tuple (.mk [(vp 249 0),Fe,(.bool true)])))],
 ⟨[],
 [(3285,(.grown 1 3 [(vi 8192),(vi 12288),(vi 16384),(vi 20480),(vi 24576),(vi 28672)])),(3284,(.cells [(vi 28672)])),(2778,(.cells [(vi 24576)])),(2272,(.cells [(vi 20480)])),(1766,(.cells [(vi 16384)])),(1260,(.cells [(vi 12288)])),(754,(.cells [(vi 8192)])),(249,gZ),(241,hJ),(231,g8),(230,(.cells [(vi 0),(vi 0),(.bool true)])),(3,gY),(2,(.ext (.mk (some 0x30303030303030000000000000000000000000000000000000000000000000000000000000000000000000000000000000000000000000000000000000000000000000000000000000000000000000000000000000000000000000000000000000000000000000000000000000000000000000000000000000000000000000000000000000000000000000000000000000000000000000059444455424c494d0000000000000007000000000000000000000000000000000000000000000000000000000000000000000000000000000000000000000000000000000000000000000000000000000000000000000000000000000000000000000000000000000000000000000000::some ly::some ls::some mD::some ot::some ph::some pP::some rY::none::none::n20) false 0))),(0,(.ro off acts))],3286⟩⟩
theorem NG(off:Nat)(acts:List Value):bQ F1 ac (ab cr) 16000 (sP2 6 off acts)=some (sO6 off acts):=by kernel_rfl
theorem oO6(off:Nat)(acts:List Value):fc 6 off acts:=by
 have h0:=bU (F:=F1) (clean:=ac) (hook:=ab cr) 1000 5 [vI 6] (⟨[(0,.ro off acts)],1⟩:Hp Ar);rw[aE (NK off acts),aE (Ni off acts),aE (NG off acts)] at h0;exact⟨_,[8192,12288,16384,20480,24576,28672],3285,_,_,_,h0.symm.trans (Ms.a rfl),rfl,rfl,rfl,rfl,rfl,rfl,zL rfl,zL rfl,by kernel_rfl,by kernel_rfl,by kernel_rfl,rfl,by decide⟩
theorem Om(off:Nat)(acts:List Value):bQ F1 ac (ab cr) 20000 (eF 1000 5 [vI 5] ⟨[(0,.ro off acts)],1⟩:Ms Ar)=some (sP1 5 off acts):=by kernel_rfl
def sO5(off:Nat)(acts:List Value):Ms Ar:=⟨1000,[],.norm,
 [(0,(.tuple (.mk [(vp 249 0),(.slice (some (.mk 2779 0 none)) 5 5),(.bool true)])))],
 ⟨[],
 [(2779,(.grown 1 3 [(vi 8192),(vi 12288),(vi 16384),(vi 20480),(vi 24576)])),(2778,(.cells [(vi 24576)])),(2272,(.cells [(vi 20480)])),(1766,(.cells [(vi 16384)])),(1260,(.cells [(vi 12288)])),(754,(.cells [(vi 8192)])),(249,gZ),(241,hJ),(231,g8),(230,(.cells [(vi 0),(vi 0),(.bool true)])),(3,gY),(2,(.ext (.mk (some 0x303030303030000000000000000000000000000000000000000000000000000000000000000000000000000000000000000000000000000000000000000000000000000000000000000000000000000000000000000000000000000000000000000000000000000000000000000000000000000000000000000000000000000000000000000000000000000000000000000000000000059444455424c494d0000000000000006000000000000000000000000000000000000000000000000000000000000000000000000000000000000000000000000000000000000000000000000000000000000000000000000000000000000000000000000000000000000000000000000::some ly::some ls::some mD::some ot::some ph::some pP::none::none::none::n20) false 0))),(0,(.ro off acts))],2780⟩⟩
theorem N8(off:Nat)(acts:List Value):bQ F1 ac (ab cr) 24000 (sP1 5 off acts)=some (sO5 off acts):=by kernel_rfl
theorem oO5(off:Nat)(acts:List Value):fc 5 off acts:=by
 have h0:=bU (F:=F1) (clean:=ac) (hook:=ab cr) 1000 5 [vI 5] (⟨[(0,.ro off acts)],1⟩:Hp Ar);rw[aE (Om off acts),aE (N8 off acts)] at h0;exact⟨_,[8192,12288,16384,20480,24576],2779,_,_,_,h0.symm.trans (Ms.a rfl),rfl,rfl,rfl,rfl,rfl,rfl,zL rfl,zL rfl,by kernel_rfl,by kernel_rfl,by kernel_rfl,rfl,by decide⟩
theorem N2(off:Nat)(acts:List Value):bQ F1 ac (ab cr) 20000 (eF 1000 5 [vI 4] ⟨[(0,.ro off acts)],1⟩:Ms Ar)=some (sP1 4 off acts):=by kernel_rfl
def sO4(off:Nat)(acts:List Value):Ms Ar:=⟨1000,[],.norm,
 [(0,(.tuple (.mk [(vp 249 0),E3,(.bool true)])))],
 ⟨[],
 [(2273,JQ),(2272,(.cells [(vi 20480)])),(1766,(.cells [(vi 16384)])),(1260,(.cells [(vi 12288)])),(754,(.cells [(vi 8192)])),(249,gZ),(241,hJ),(231,g8),(230,(.cells [(vi 0),(vi 0),(.bool true)])),(3,gY),(2,Jr),(0,(.ro off acts))],2274⟩⟩
theorem Nw(off:Nat)(acts:List Value):bQ F1 ac (ab cr) 16000 (sP1 4 off acts)=some (sO4 off acts):=by kernel_rfl
theorem oO4(off:Nat)(acts:List Value):fc 4 off acts:=by
 have h0:=bU (F:=F1) (clean:=ac) (hook:=ab cr) 1000 5 [vI 4] (⟨[(0,.ro off acts)],1⟩:Hp Ar);rw[aE (N2 off acts),aE (Nw off acts)] at h0;exact⟨_,[8192,12288,16384,20480],2273,_,_,_,h0.symm.trans (Ms.a rfl),rfl,rfl,rfl,rfl,rfl,rfl,zL rfl,zL rfl,by kernel_rfl,by kernel_rfl,by kernel_rfl,rfl,by decide⟩
def sO3(off:Nat)(acts:List Value):Ms Ar:=⟨1000,[],.norm,
 [(0,(.tuple (.mk [(vp 249 0),zh,(.bool true)])))],
 ⟨[],
 [(1767,(.grown 1 3 [(vi 8192),(vi 12288),(vi 16384)])),(1766,(.cells [(vi 16384)])),(1260,(.cells [(vi 12288)])),(754,(.cells [(vi 8192)])),(249,gZ),(241,hJ),(231,g8),(230,(.cells [(vi 0),(vi 0),(.bool true)])),(3,gY),(2,(.ext (.mk (some 0x30303030000000000000000000000000000000000000000000000000000000000000000000000000000000000000000000000000000000000000000000000000000000000000000000000000000000000000000000000000000000000000000000000000000000000000000000000000000000000000000000000000000000000000000000000000000000000000000000000000059444455424c494d0000000000000004000000000000000000000000000000000000000000000000000000000000000000000000000000000000000000000000000000000000000000000000000000000000000000000000000000000000000000000000000000000000000000000000::some ly::some ls::some mD::some ot::none::none::none::none::none::n20) false 0))),(0,(.ro off acts))],1768⟩⟩
theorem Np(off:Nat)(acts:List Value):bQ F1 ac (ab cr) 28000 (eF 1000 5 [vI 3] ⟨[(0,.ro off acts)],1⟩:Ms Ar)=some (sO3 off acts):=by kernel_rfl
theorem oO3(off:Nat)(acts:List Value):fc 3 off acts:=by
 have h0:=bU (F:=F1) (clean:=ac) (hook:=ab cr) 1000 5 [vI 3] (⟨[(0,.ro off acts)],1⟩:Hp Ar);rw[aE (Np off acts)] at h0;exact⟨_,[8192,12288,16384],1767,_,_,_,h0.symm.trans (Ms.a rfl),rfl,rfl,rfl,rfl,rfl,rfl,zL rfl,zL rfl,by kernel_rfl,by kernel_rfl,by kernel_rfl,rfl,by decide⟩
def sO2(off:Nat)(acts:List Value):Ms Ar:=⟨1000,[],.norm,
 [(0,(.tuple (.mk [(vp 249 0),zM,(.bool true)])))],
 ⟨[],
 [(1261,(.grown 1 3 [(vi 8192),(vi 12288)])),(1260,(.cells [(vi 12288)])),(754,(.cells [(vi 8192)])),(249,gZ),(241,hJ),(231,g8),(230,(.cells [(vi 0),(vi 0),(.bool true)])),(3,gY),(2,(.ext (.mk (some NV::some ly::some ls::some mD::none::none::none::none::none::none::n20) false 0))),(0,(.ro off acts))],1262⟩⟩
theorem Oo(off:Nat)(acts:List Value):bQ F1 ac (ab cr) 22000 (eF 1000 5 [vI 2] ⟨[(0,.ro off acts)],1⟩:Ms Ar)=some (sO2 off acts):=by kernel_rfl
theorem oO2(off:Nat)(acts:List Value):fc 2 off acts:=by
 have h0:=bU (F:=F1) (clean:=ac) (hook:=ab cr) 1000 5 [vI 2] (⟨[(0,.ro off acts)],1⟩:Hp Ar);rw[aE (Oo off acts)] at h0;exact⟨_,[8192,12288],1261,_,_,_,h0.symm.trans (Ms.a rfl),rfl,rfl,rfl,rfl,rfl,rfl,zL rfl,zL rfl,by kernel_rfl,by kernel_rfl,by kernel_rfl,rfl,by decide⟩
def sO1(off:Nat)(acts:List Value):Ms Ar:=⟨1000,[],.norm,
 [(0,(.tuple (.mk [(vp 249 0),sw,(.bool true)])))],
 ⟨[],
 [(755,(.grown 1 3 [(vi 8192)])),(754,(.cells [(vi 8192)])),(249,gZ),(241,hJ),(231,g8),(230,(.cells [(vi 0),(vi 0),(.bool true)])),(3,gY),(2,(.ext (.mk (some 0x3030000000000000000000000000000000000000000000000000000000000000000000000000000000000000000000000000000000000000000000000000000000000000000000000000000000000000000000000000000000000000000000000000000000000000000000000000000000000000000000000000000000000000000000000000000000000000000000000000059444455424c494d0000000000000002000000000000000000000000000000000000000000000000000000000000000000000000000000000000000000000000000000000000000000000000000000000000000000000000000000000000000000000000000000000000000000000000::some ly::some ls::none::none::none::none::none::none::none::n20) false 0))),(0,(.ro off acts))],756⟩⟩
theorem NM(off:Nat)(acts:List Value):bQ F1 ac (ab cr) 16000 (eF 1000 5 [vI 1] ⟨[(0,.ro off acts)],1⟩:Ms Ar)=some (sO1 off acts):=by kernel_rfl
theorem oO1(off:Nat)(acts:List Value):fc 1 off acts:=by
 have h0:=bU (F:=F1) (clean:=ac) (hook:=ab cr) 1000 5 [vI 1] (⟨[(0,.ro off acts)],1⟩:Hp Ar);rw[aE (NM off acts)] at h0;exact⟨_,[8192],755,_,_,_,h0.symm.trans (Ms.a rfl),rfl,rfl,rfl,rfl,rfl,rfl,zL rfl,zL rfl,by kernel_rfl,by kernel_rfl,by kernel_rfl,rfl,by decide⟩
end Go.AI
