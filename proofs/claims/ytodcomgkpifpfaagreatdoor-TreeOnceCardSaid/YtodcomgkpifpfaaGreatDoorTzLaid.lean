/-
  DERIVED: THE SHELF's CONTRACTS AT THIS DUMP, IN PLAIN WORDS (tools/lay-plain.mjs out of 'TryzShelf.lean', which tools/lay-shelf.mjs wrote): THE SAME DECLARATIONS UNDER THE SAME NAMES: 'import', 'namespace', 'open', 'def', 'theorem' AND NOTHING ELSE: no command of the shelf's: FOR A HAND-IN. Each laying: the table of numbers ('.._ren') and one theorem, a field a fact of the dump's own or the kernel's comparison; each contract: ONE APPLICATION.
-/
import Derived.Shelf.Spec.TrailingZeros
import Derived.Ground.Names7Prog
import Derived.Test.YtodcomgkpifpfaaGreatDoorProg
namespace Go.Proofs
open Go.Shelf
def Tryz.lays28_ren:Go.Shelf.Ren:=⟨fun | 28=>197 | n=>n,fun | 27=>251 | 3=>3 | 4=>4 | 25=>220 | 53=>265 | 0=>0 | 5=>5 | n=>n,fun | 0=>0 | n=>n⟩
theorem Tryz.lays28:Go.Proofs.Lays7.n28 Tryz.prog Tryz.lays28_ren:={
 mixed:=by kernel_rfl
 f28:=Tryz.func197.trans (congrArg some (by kernel_rfl))
 t0:=Tryz.underlying0
 a0:=Tryz.isAgg0
 z0:=Tryz.sizeOf0
 v0:=Tryz.zeroValue0
 i0:=by kernel_rfl
 t3:=Tryz.underlying3
 a3:=Tryz.isAgg3
 z3:=Tryz.sizeOf3
 v3:=Tryz.zeroValue3
 i3:=by kernel_rfl
 t4:=Tryz.underlying4
 a4:=Tryz.isAgg4
 z4:=Tryz.sizeOf4
 v4:=Tryz.zeroValue4
 i4:=by kernel_rfl
 t5:=Tryz.underlying5
 a5:=Tryz.isAgg5
 z5:=Tryz.sizeOf5
 v5:=Tryz.zeroValue5
 i5:=by kernel_rfl
 t25:=Tryz.underlying220
 a25:=Tryz.isAgg220
 z25:=Tryz.sizeOf220
 v25:=Tryz.zeroValue220
 i25:=by kernel_rfl
 t27:=Tryz.underlying251
 a27:=Tryz.isAgg251
 z27:=Tryz.sizeOf251
 v27:=Tryz.zeroValue251
 i27:=by kernel_rfl
 t53:=Tryz.underlying265
 a53:=Tryz.isAgg265
 z53:=Tryz.sizeOf265
 v53:=Tryz.zeroValue265
 i53:=by kernel_rfl
 g0:=by kernel_rfl }
def Tryz.lays29_ren:Go.Shelf.Ren:=⟨fun | 29=>198 | n=>n,fun | 22=>67 | 3=>3 | 4=>4 | 25=>220 | 54=>266 | 0=>0 | 5=>5 | n=>n,fun | 1=>1 | n=>n⟩
theorem Tryz.lays29:Go.Proofs.Lays7.n29 Tryz.prog Tryz.lays29_ren:={
 mixed:=by kernel_rfl
 f29:=Tryz.func198.trans (congrArg some (by kernel_rfl))
 t0:=Tryz.underlying0
 a0:=Tryz.isAgg0
 z0:=Tryz.sizeOf0
 v0:=Tryz.zeroValue0
 i0:=by kernel_rfl
 t3:=Tryz.underlying3
 a3:=Tryz.isAgg3
 z3:=Tryz.sizeOf3
 v3:=Tryz.zeroValue3
 i3:=by kernel_rfl
 t4:=Tryz.underlying4
 a4:=Tryz.isAgg4
 z4:=Tryz.sizeOf4
 v4:=Tryz.zeroValue4
 i4:=by kernel_rfl
 t5:=Tryz.underlying5
 a5:=Tryz.isAgg5
 z5:=Tryz.sizeOf5
 v5:=Tryz.zeroValue5
 i5:=by kernel_rfl
 t22:=Tryz.underlying67
 a22:=Tryz.isAgg67
 z22:=Tryz.sizeOf67
 v22:=Tryz.zeroValue67
 i22:=by kernel_rfl
 t25:=Tryz.underlying220
 a25:=Tryz.isAgg220
 z25:=Tryz.sizeOf220
 v25:=Tryz.zeroValue220
 i25:=by kernel_rfl
 t54:=Tryz.underlying266
 a54:=Tryz.isAgg266
 z54:=Tryz.sizeOf266
 g1:=by kernel_rfl }
end Go.Proofs
