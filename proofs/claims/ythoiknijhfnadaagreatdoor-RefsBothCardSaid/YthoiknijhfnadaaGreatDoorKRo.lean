/-
  DERIVED: THE SHELF's CONTRACTS AT THIS DUMP, IN PLAIN WORDS (tools/lay-plain.mjs out of 'TryzShelf.lean', which tools/lay-shelf.mjs wrote): THE SAME DECLARATIONS UNDER THE SAME NAMES: 'import', 'namespace', 'open', 'def', 'theorem' AND NOTHING ELSE: no command of the shelf's: FOR A HAND-IN. Each laying: the table of numbers ('.._ren') and one theorem, a field a fact of the dump's own or the kernel's comparison; each contract: ONE APPLICATION.
-/
import Derived.Shelf.Spec.TrailingZeros
import Derived.Ground.Names7Prog
import Derived.Test.YthoiknijhfnadaaGreatDoorProg
import Derived.Test.YthoiknijhfnadaaGreatDoorKHk
import Derived.KernelRfl
import Derived.Eval
import Derived.LoopN
import Derived.Tactics
namespace Go.Proofs
open Go.Shelf
def Tryz.lays28_ren:Go.Shelf.Ren:=⟨fun|28=>226|n=>n,fun|27=>293|3=>3|4=>4|25=>237|53=>312|0=>0|5=>5|n=>n,fun|0=>0|n=>n⟩
theorem Tryz.lays28:Go.Proofs.Lays7.n28 Tryz.prog Tryz.lays28_ren:={
 mixed:=by kernel_rfl
 f28:=Tryz.func226.trans (congrArg some (by kernel_rfl))
 t0:=Tryz.underlying0
 a0:=Tryz.isAgg0
 z0:=Tryz.sizeOf0
 v0:=Tryz.zeroValue0
 i0:=by kernel_rfl
 t3:=Tryz.underlying3
 a3:=Tryz.isAgg3
 z3:=Tryz.sizeOf3
 v3:=Tryz.zeroValue3
 i3:=by kernel_rfl
 t4:=Tryz.underlying4
 a4:=Tryz.isAgg4
 z4:=Tryz.sizeOf4
 v4:=Tryz.zeroValue4
 i4:=by kernel_rfl
 t5:=Tryz.underlying5
 a5:=Tryz.isAgg5
 z5:=Tryz.sizeOf5
 v5:=Tryz.zeroValue5
 i5:=by kernel_rfl
 t25:=Tryz.underlying237
 a25:=Tryz.isAgg237
 z25:=Tryz.sizeOf237
 v25:=Tryz.zeroValue237
 i25:=by kernel_rfl
 t27:=Tryz.underlying293
 a27:=Tryz.isAgg293
 z27:=Tryz.sizeOf293
 v27:=Tryz.zeroValue293
 i27:=by kernel_rfl
 t53:=Tryz.underlying312
 a53:=Tryz.isAgg312
 z53:=Tryz.sizeOf312
 v53:=Tryz.zeroValue312
 i53:=by kernel_rfl
 g0:=by kernel_rfl }
def Tryz.lays29_ren:Go.Shelf.Ren:=⟨fun|29=>227|n=>n,fun|22=>28|3=>3|4=>4|25=>237|54=>313|0=>0|5=>5|n=>n,fun|1=>1|n=>n⟩
theorem Tryz.lays29:Go.Proofs.Lays7.n29 Tryz.prog Tryz.lays29_ren:={
 mixed:=by kernel_rfl
 f29:=Tryz.func227.trans (congrArg some (by kernel_rfl))
 t0:=Tryz.underlying0
 a0:=Tryz.isAgg0
 z0:=Tryz.sizeOf0
 v0:=Tryz.zeroValue0
 i0:=by kernel_rfl
 t3:=Tryz.underlying3
 a3:=Tryz.isAgg3
 z3:=Tryz.sizeOf3
 v3:=Tryz.zeroValue3
 i3:=by kernel_rfl
 t4:=Tryz.underlying4
 a4:=Tryz.isAgg4
 z4:=Tryz.sizeOf4
 v4:=Tryz.zeroValue4
 i4:=by kernel_rfl
 t5:=Tryz.underlying5
 a5:=Tryz.isAgg5
 z5:=Tryz.sizeOf5
 v5:=Tryz.zeroValue5
 i5:=by kernel_rfl
 t22:=Tryz.underlying28
 a22:=Tryz.isAgg28
 z22:=Tryz.sizeOf28
 v22:=Tryz.zeroValue28
 i22:=by kernel_rfl
 t25:=Tryz.underlying237
 a25:=Tryz.isAgg237
 z25:=Tryz.sizeOf237
 v25:=Tryz.zeroValue237
 i25:=by kernel_rfl
 t54:=Tryz.underlying313
 a54:=Tryz.isAgg313
 z54:=Tryz.sizeOf313
 g1:=by kernel_rfl }
end Go.Proofs
/- millpondlaw02.rows at the chapter's example, a range over a function: walked by hand round by round, its regions by the evaluator. -/
noncomputable section
namespace Go.AI
abbrev cV {X:Type}:AObj X:=.cells [i0 10,.slice (some (.mk 31 0 none)) 1 1]
abbrev aV:Value:=.agg (.mk [i0 10,.slice (some (.mk 31 0 none)) 1 1])
open Go.Proofs
def escAll:Nat→Nat→Bool:=fun _ _=>true
abbrev PZ:Program:=Tryz.prog
def F0:Nat→Option IFn:=mkFn PZ escAll
def hook0{X:Type}:Hook X:=fun k=>bif Nat.beq k 227 then some tz64H else bif Nat.beq k 226 then some tz32H else none
def call0{X:Type}:CallFn X:=run F0 (fun _=>false) hook0 60
def e_o0:List (Nat×Value):=[(2,(.slice none 0 0)),(1,pV 48),(0,aV)]
def m_o0{X:Type}:Mem X:=(.mk [] [(48,cV),(31,(.grown 1 28 [u0 20]))] 49)
def e_o1:List (Nat×Value):=[(3,pV 49),(2,(.slice none 0 0)),(1,pV 48),(0,aV)]
def m_o1{X:Type}:Mem X:=(.mk [] [(49,(.cells [(.slice none 0 0)])),(48,cV),(31,(.grown 1 28 [u0 20]))] 50)
def e_o2:List (Nat×Value):=[(7,(.func (.func 276) (.mk []) (.mk [pV 50]))),(6,aV),(3,pV 49),(2,(.slice none 0 0)),(1,pV 48),(0,aV)]
def m_o2{X:Type}:Mem X:=(.mk [] [(50,cV),(49,(.cells [(.slice none 0 0)])),(48,cV),(31,(.grown 1 28 [u0 20]))] 51)
def e_a0:List (Nat×Value):=[(3,i0 2),(6,i0 2),(5,aV),(1,pV 50)]
def m_a0{X:Type}:Mem X:=(.mk [] [(52,cV),(51,cV),(50,cV),(49,(.cells [(.slice none 0 0)])),(48,cV),(31,(.grown 1 28 [u0 20]))] 53)
def e_b1:List (Nat×Value):=[(10,(.bool true)),(9,i0 10),(8,pV 50),(7,i0 2),(3,i0 2),(6,i0 2),(5,aV),(1,pV 50)]
def m_b1{X:Type}:Mem X:=(.mk [] [(52,cV),(51,cV),(50,cV),(49,(.cells [(.slice none 0 0)])),(48,cV),(31,(.grown 1 28 [u0 20]))] 53)
def e_c1:List (Nat×Value):=[(4,i0 3),(13,i0 3),(12,i0 2),(11,aV),(10,(.bool true)),(9,i0 10),(8,pV 50),(7,i0 2),(3,i0 2),(6,i0 2),(5,aV),(1,pV 50)]
def m_c1{X:Type}:Mem X:=(.mk [] [(54,cV),(53,cV),(52,cV),(51,cV),(50,cV),(49,(.cells [(.slice none 0 0)])),(48,cV),(31,(.grown 1 28 [u0 20]))] 55)
def e_y1a:List (Nat×Value):=[(4,i0 2),(9,i0 1),(8,i0 2),(7,(.func (.func 276) (.mk []) (.mk [pV 50]))),(6,aV),(3,pV 49),(2,(.slice none 0 0)),(1,pV 48),(0,aV)]
def m_y1a{X:Type}:Mem X:=(.mk [] [(54,cV),(53,cV),(52,cV),(51,cV),(50,cV),(49,(.cells [(.slice none 0 0)])),(48,cV),(31,(.grown 1 28 [u0 20]))] 55)
def e_y1b:List (Nat×Value):=[(5,i0 1),(4,i0 2),(9,i0 1),(8,i0 2),(7,(.func (.func 276) (.mk []) (.mk [pV 50]))),(6,aV),(3,pV 49),(2,(.slice none 0 0)),(1,pV 48),(0,aV)]
def m_y1b{X:Type}:Mem X:=(.mk [] [(54,cV),(53,cV),(52,cV),(51,cV),(50,cV),(49,(.cells [(.slice none 0 0)])),(48,cV),(31,(.grown 1 28 [u0 20]))] 55)
def e_y1:List (Nat×Value):=[(14,(.slice (some (.mk 56 0 none)) 2 2)),(13,(.slice (some (.mk 55 0 none)) 2 2)),(12,i0 1),(11,i0 2),(10,(.slice none 0 0)),(5,i0 1),(4,i0 2),(9,i0 1),(8,i0 2),(7,(.func (.func 276) (.mk []) (.mk [pV 50]))),(6,aV),(3,pV 49),(2,(.slice none 0 0)),(1,pV 48),(0,aV)]
def m_y1{X:Type}:Mem X:=(.mk [] [(56,(.grown 1 3 [i0 2,i0 1])),(55,(.cells [i0 2,i0 1])),(54,cV),(53,cV),(52,cV),(51,cV),(50,cV),(49,(.cells [(.slice (some (.mk 56 0 none)) 2 2)])),(48,cV),(31,(.grown 1 28 [u0 20]))] 57)
def e_d1:List (Nat×Value):=[(3,i0 4),(23,i0 4),(22,i0 3),(21,aV),(4,i0 3),(13,i0 3),(12,i0 2),(11,aV),(10,(.bool true)),(9,i0 10),(8,pV 50),(7,i0 2),(3,i0 2),(6,i0 2),(5,aV),(1,pV 50)]
def m_d1{X:Type}:Mem X:=(.mk [] [(58,cV),(57,cV),(56,(.grown 1 3 [i0 2,i0 1])),(55,(.cells [i0 2,i0 1])),(54,cV),(53,cV),(52,cV),(51,cV),(50,cV),(49,(.cells [(.slice (some (.mk 56 0 none)) 2 2)])),(48,cV),(31,(.grown 1 28 [u0 20]))] 59)
def e_b2:List (Nat×Value):=[(10,(.bool true)),(9,i0 10),(8,pV 50),(7,i0 4),(3,i0 4),(23,i0 4),(22,i0 3),(21,aV),(4,i0 3),(13,i0 3),(12,i0 2),(11,aV),(10,(.bool true)),(9,i0 10),(8,pV 50),(7,i0 2),(3,i0 2),(6,i0 2),(5,aV),(1,pV 50)]
def m_b2{X:Type}:Mem X:=(.mk [] [(58,cV),(57,cV),(56,(.grown 1 3 [i0 2,i0 1])),(55,(.cells [i0 2,i0 1])),(54,cV),(53,cV),(52,cV),(51,cV),(50,cV),(49,(.cells [(.slice (some (.mk 56 0 none)) 2 2)])),(48,cV),(31,(.grown 1 28 [u0 20]))] 59)
def e_c2:List (Nat×Value):=[(4,i0 5),(13,i0 5),(12,i0 4),(11,aV),(10,(.bool true)),(9,i0 10),(8,pV 50),(7,i0 4),(3,i0 4),(23,i0 4),(22,i0 3),(21,aV),(4,i0 3),(13,i0 3),(12,i0 2),(11,aV),(10,(.bool true)),(9,i0 10),(8,pV 50),(7,i0 2),(3,i0 2),(6,i0 2),(5,aV),(1,pV 50)]
def m_c2{X:Type}:Mem X:=(.mk [] [(60,cV),(59,cV),(58,cV),(57,cV),(56,(.grown 1 3 [i0 2,i0 1])),(55,(.cells [i0 2,i0 1])),(54,cV),(53,cV),(52,cV),(51,cV),(50,cV),(49,(.cells [(.slice (some (.mk 56 0 none)) 2 2)])),(48,cV),(31,(.grown 1 28 [u0 20]))] 61)
def e_y2a:List (Nat×Value):=[(4,i0 4),(9,i0 1),(8,i0 4),(7,(.func (.func 276) (.mk []) (.mk [pV 50]))),(6,aV),(3,pV 49),(2,(.slice none 0 0)),(1,pV 48),(0,aV)]
def m_y2a{X:Type}:Mem X:=(.mk [] [(60,cV),(59,cV),(58,cV),(57,cV),(56,(.grown 1 3 [i0 2,i0 1])),(55,(.cells [i0 2,i0 1])),(54,cV),(53,cV),(52,cV),(51,cV),(50,cV),(49,(.cells [(.slice (some (.mk 56 0 none)) 2 2)])),(48,cV),(31,(.grown 1 28 [u0 20]))] 61)
def e_y2b:List (Nat×Value):=[(5,i0 1),(4,i0 4),(9,i0 1),(8,i0 4),(7,(.func (.func 276) (.mk []) (.mk [pV 50]))),(6,aV),(3,pV 49),(2,(.slice none 0 0)),(1,pV 48),(0,aV)]
def m_y2b{X:Type}:Mem X:=(.mk [] [(60,cV),(59,cV),(58,cV),(57,cV),(56,(.grown 1 3 [i0 2,i0 1])),(55,(.cells [i0 2,i0 1])),(54,cV),(53,cV),(52,cV),(51,cV),(50,cV),(49,(.cells [(.slice (some (.mk 56 0 none)) 2 2)])),(48,cV),(31,(.grown 1 28 [u0 20]))] 61)
def e_y2:List (Nat×Value):=[(14,(.slice (some (.mk 62 0 none)) 4 4)),(13,(.slice (some (.mk 61 0 none)) 2 2)),(12,i0 1),(11,i0 4),(10,(.slice (some (.mk 56 0 none)) 2 2)),(5,i0 1),(4,i0 4),(9,i0 1),(8,i0 4),(7,(.func (.func 276) (.mk []) (.mk [pV 50]))),(6,aV),(3,pV 49),(2,(.slice none 0 0)),(1,pV 48),(0,aV)]
def m_y2{X:Type}:Mem X:=(.mk [] [(62,(.grown 1 3 [i0 2,i0 1,i0 4,i0 1])),(61,(.cells [i0 4,i0 1])),(60,cV),(59,cV),(58,cV),(57,cV),(55,(.cells [i0 2,i0 1])),(54,cV),(53,cV),(52,cV),(51,cV),(50,cV),(49,(.cells [(.slice (some (.mk 62 0 none)) 4 4)])),(48,cV),(31,(.grown 1 28 [u0 20]))] 63)
def e_d2:List (Nat×Value):=[(3,i0 10),(23,i0 10),(22,i0 5),(21,aV),(4,i0 5),(13,i0 5),(12,i0 4),(11,aV),(10,(.bool true)),(9,i0 10),(8,pV 50),(7,i0 4),(3,i0 4),(23,i0 4),(22,i0 3),(21,aV),(4,i0 3),(13,i0 3),(12,i0 2),(11,aV),(10,(.bool true)),(9,i0 10),(8,pV 50),(7,i0 2),(3,i0 2),(6,i0 2),(5,aV),(1,pV 50)]
def m_d2{X:Type}:Mem X:=(.mk [] [(64,cV),(63,cV),(62,(.grown 1 3 [i0 2,i0 1,i0 4,i0 1])),(61,(.cells [i0 4,i0 1])),(60,cV),(59,cV),(58,cV),(57,cV),(55,(.cells [i0 2,i0 1])),(54,cV),(53,cV),(52,cV),(51,cV),(50,cV),(49,(.cells [(.slice (some (.mk 62 0 none)) 4 4)])),(48,cV),(31,(.grown 1 28 [u0 20]))] 65)
def e_b3:List (Nat×Value):=[(10,(.bool false)),(9,i0 10),(8,pV 50),(7,i0 10),(3,i0 10),(23,i0 10),(22,i0 5),(21,aV),(4,i0 5),(13,i0 5),(12,i0 4),(11,aV),(10,(.bool true)),(9,i0 10),(8,pV 50),(7,i0 4),(3,i0 4),(23,i0 4),(22,i0 3),(21,aV),(4,i0 3),(13,i0 3),(12,i0 2),(11,aV),(10,(.bool true)),(9,i0 10),(8,pV 50),(7,i0 2),(3,i0 2),(6,i0 2),(5,aV),(1,pV 50)]
def m_b3{X:Type}:Mem X:=(.mk [] [(64,cV),(63,cV),(62,(.grown 1 3 [i0 2,i0 1,i0 4,i0 1])),(61,(.cells [i0 4,i0 1])),(60,cV),(59,cV),(58,cV),(57,cV),(55,(.cells [i0 2,i0 1])),(54,cV),(53,cV),(52,cV),(51,cV),(50,cV),(49,(.cells [(.slice (some (.mk 62 0 none)) 4 4)])),(48,cV),(31,(.grown 1 28 [u0 20]))] 65)
def e_z:List (Nat×Value):=[(2,(.slice (some (.mk 62 0 none)) 4 4)),(15,(.slice (some (.mk 62 0 none)) 4 4)),(7,(.func (.func 276) (.mk []) (.mk [pV 50]))),(6,aV),(3,pV 49),(2,(.slice none 0 0)),(1,pV 48),(0,aV)]
def m_z{X:Type}:Mem X:=(.mk [] [(64,cV),(63,cV),(62,(.grown 1 3 [i0 2,i0 1,i0 4,i0 1])),(61,(.cells [i0 4,i0 1])),(60,cV),(59,cV),(58,cV),(57,cV),(55,(.cells [i0 2,i0 1])),(54,cV),(53,cV),(52,cV),(51,cV),(50,cV),(49,(.cells [(.slice (some (.mk 62 0 none)) 4 4)])),(48,cV),(31,(.grown 1 28 [u0 20]))] 65)
section
variable {E:Ext}{W0:World}
structure Tabs(W0:World):Prop where
 t32:TabAt 0 Lib.deBruijn32tab W0
 t64:TabAt 1 Lib.deBruijn64tab W0
 l32:0<W0.heap.size
 l64:1<W0.heap.size
theorem mixedZ:PZ.follows .mixedOrders=true:=by kernel_rfl
theorem tz64B:Bodied PZ 227:=⟨_,_,Tryz.func227,rfl,by kernel_rfl⟩
theorem tz32B:Bodied PZ 226:=⟨_,_,Tryz.func226,rfl,by kernel_rfl⟩
theorem hook0_ok(hT:Tabs W0):∀k g,hook0 (X:=E.X) k=some g→HookOk E PZ W0 k g:=by
 intro k g h
 unfold hook0 at h
 cases h1:Nat.beq k 227 with
 |true =>
  rw[h1,cond_true] at h
  rw[Nat.beq_eq] at h1
  injection h with h;subst h;subst h1
  exact tz64_ok Tryz.lays29 rfl tz64B hT.t64 hT.l64
 |false =>
  rw[h1,cond_false] at h
  cases h2:Nat.beq k 226 with
  |true =>
   rw[h2,cond_true] at h
   rw[Nat.beq_eq] at h2
   injection h with h;subst h;subst h2
   exact tz32_ok Tryz.lays28 rfl tz32B hT.t32 hT.l32
  |false=>rw[h2] at h;cases h
theorem call0_ok(hT:Tabs W0):CallsOk E PZ W0 call0:=run_sound mixedZ (hooks_ok (hook0_ok hT)) 60
def noDeferB(ops:List Oper):Bool:=ops.all fun o=>match o.op with| .defer _=>false|_=>true
theorem noDefer_of{ops:Array Oper}(h:noDeferB ops.toList=true):noDefer ops:=by
 intro i o ho c hc
 have hm:o∈ops.toList:=by
  rw[Array.getElem?_eq_some_iff] at ho
  obtain⟨hi,rfl⟩:=ho
  exact Array.getElem_mem_toList hi
 have:=List.all_eq_true.1 h o hm
 rw[hc] at this
 cases this
def dstB(s:Nat)(ops:List Oper):Bool:=ops.all fun o=>match o.dst with|some d=>!Nat.beq d s|none=>true
theorem dst_of{ops:Array Oper}{s:Nat}(h:dstB s ops.toList=true):∀(i:Nat) (o:Oper),ops[i]? = some o→o.dst≠some s:=by
 intro i o ho hc
 have hm:o∈ops.toList:=by
  rw[Array.getElem?_eq_some_iff] at ho
  obtain⟨hi,rfl⟩:=ho
  exact Array.getElem_mem_toList hi
 have:=List.all_eq_true.1 h o hm
 rw[hc] at this
 simp at this
theorem region_at{ro:Option Nat}{n N:Nat}{ops:Array Oper}{id s:Nat}{Q:Exit→Act→World→Prop}{env env':List (Nat×Value)}{m m':Mem E.X}{ρ:Ren}{φ:Foot}{t:Array Value}{ds:List Deferred}{w:World}
  (hC:CallsOk E PZ W0 call0) (hnd:noDeferB ops.toList=true) (hk:dstB s ops.toList=true) (h:((mkOps PZ (fun _=>true) N ops.toList ops.toList).bind fun il=>runOps call0 il env m)=some (env',m')) (hs:St E W0 ρ φ env m N ⟨t,[]⟩ w)
  (hQ:∀t' w' ρ' φ',To E W0 ρ φ m w ρ' φ' env' m' N ⟨t',[]⟩ w'→t'.getD s undef=t.getD s undef→Q .normal ⟨t',ds⟩ w'):(Code.region id ops false).wpIn (fen ro) n PZ Q ⟨t,ds⟩ w:=by
 cases hm:mkOps PZ (fun _=>true) N ops.toList ops.toList with
 |none=>rw[hm] at h;cases h
 |some il =>
  rw[hm] at h
  exact region_keep hC (noDefer_of hnd) (dst_of hk) hm h hs hQ
structure RInv(E:Ext)(W0:World)(wi:World)(ρi:Ren)(φi:Foot)(Vi:View E)(ni:Nat)(ρO:Ren)(l D:Nat)(r:Loop)(ρ:Ren)(φ:Foot)(m:Mem E.X)(w:World):Prop where
 post:Post W0 ρi φi Vi ni wi ρ φ m.get m.next w
 le:ρO.le ρ
 ol:wi.heap.size≤l∧l<w.heap.size∧∀i o,m.get i=some o→¬(φ i).2 l
 oD:wi.heap.size≤D∧D<w.heap.size∧∀i o,m.get i=some o→¬(φ i).2 D
 ne:D≠l
 L:w.heap[l]? = some (.loop r)
 K:w.heap[D]? = some (.deferred (some []))
variable {wi:World}{ρi ρO:Ren}{φi:Foot}{Vi:View E}{ni l D:Nat}{r:Loop}
theorem out_step{ρ ρ':Ren}{φ φ':Foot}{V V':View E}{n n' c:Nat}{w w':World}(p:Post W0 ρ φ V n w ρ' φ' V' n' w')(g:Good W0 ρ φ V n w)(h:c<w.heap.size∧∀i o,V i=some o→¬(φ i).2 c) :
  (c<w'.heap.size∧∀i o,V' i=some o→¬(φ' i).2 c)∧w'.heap[c]? = w.heap[c]? := by
 refine⟨⟨Nat.lt_of_lt_of_le h.1 p.sz,fun i o hi hD=>?_⟩,p.keep c h.1 fun i o hi hF=>h.2 i o hi (g.sub i o c hi hF)⟩
 rcases p.fD i o c hi hD with h'|⟨j,oj,h1,h2⟩
 ·have:=h.1;omega
 ·exact h.2 j oj h1 h2
theorem RInv.step{ρ ρ':Ren}{φ φ':Foot}{m m':Mem E.X}{w w':World}(h:RInv E W0 wi ρi φi Vi ni ρO l D r ρ φ m w)(p:Post W0 ρ φ m.get m.next w ρ' φ' m'.get m'.next w'):RInv E W0 wi ρi φi Vi ni ρO l D r ρ' φ' m' w':=by
 have hl:=out_step p h.post.good h.ol.2
 have hD:=out_step p h.post.good h.oD.2
 exact⟨h.post.trans p,Ren.le_trans h.le p.le,⟨h.ol.1,hl.1⟩,⟨h.oD.1,hD.1⟩,h.ne,hl.2.trans h.L,hD.2.trans h.K⟩
theorem RInv.putL{ρ:Ren}{φ:Foot}{m:Mem E.X}{w:World}(r':Loop)(h:RInv E W0 wi ρi φi Vi ni ρO l D r ρ φ m w)(hb:W0.heap.size≤wi.heap.size):RInv E W0 wi ρi φi Vi ni ρO l D r' ρ φ m (w.putObj l (.loop r')):=by
 have hne:∀i o c,m.get i=some o→(φ i).2 c→(w.putObj l (.loop r')).heap[c]? = w.heap[c]? := fun i o c hi hc=>World.putObj_heap_other fun e=>h.ol.2.2 i o hi (e▸hc)
 have hbase:∀b,b<wi.heap.size→(w.putObj l (.loop r')).heap[b]? = w.heap[b]? := fun b hb=>World.putObj_heap_other (by have:=h.ol.1;omega)
 have hg:=h.post.good.beyond hne (by simp) (fun b hb'=>hbase b (by omega)) rfl rfl
 refine⟨⟨hg,h.post.le,h.post.nle,by have:=h.post.sz;simpa using this,fun c hc hF=>(hbase c hc).trans (h.post.keep c hc hF),h.post.fF,h.post.fD,h.post.ids,h.post.old⟩,h.le,⟨h.ol.1,by simpa using h.ol.2.1,h.ol.2.2⟩,⟨h.oD.1,by simpa using h.oD.2.1,h.oD.2.2⟩,h.ne,World.putObj_heap_same h.ol.2.1,(World.putObj_heap_other h.ne).trans h.K⟩
theorem fold2(t:Array Value)(a b:Value):((#[8,9]:Array Tmp).zip #[a,b]).foldl (fun tmps x=>tmps.setIfInBounds x.1 x.2) t=(t.setIfInBounds 8 a).setIfInBounds 9 b:=by simp[Array.zip]
theorem round_ok(hT:Tabs W0)(hwi:W0.heap.size≤wi.heap.size){fn:FuncId}{assign body:Code}{tO:Array Value}{ρ:Ren}{φ:Foot}{m m1 m2 m':Mem E.X}{e1 e2 e':List (Nat×Value)}{w:World}{a b:Int}
  (hr:r={ state:=.ready,pending:=none,fn:=fn,tmps:=tO,params:=#[8,9],assign:=assign,body:=body,defers:=D })
  (hO:ER ρO e_o2 ⟨tO,[]⟩) (hsz:tO.size=16)
  {o3 o4 o5:Array Oper} (ha:assign=(Code.region 3 o3 false).seq (Code.region 4 o4 false)) (hb:body=Code.block 1 (Code.region 5 o5 false))
  (n3:noDeferB o3.toList=true) (n4:noDeferB o4.toList=true) (n5:noDeferB o5.toList=true) (k3:dstB 0 o3.toList=true) (k4:dstB 0 o4.toList=true) (k5:dstB 0 o5.toList=true)
  (h3:((mkOps PZ (fun _=>true) 16 o3.toList o3.toList).bind fun il=>runOps call0 il ((9,.int .i64 b)::(8,.int .i64 a)::e_o2) m)=some (e1,m1))
  (h4:((mkOps PZ (fun _=>true) 16 o4.toList o4.toList).bind fun il=>runOps call0 il e1 m1)=some (e2,m2))
  (h5:((mkOps PZ (fun _=>true) 16 o5.toList o5.toList).bind fun il=>runOps call0 il e2 m2)=some (e',m'))
  (h:RInv E W0 wi ρi φi Vi ni ρO l D r ρ φ m w) (hsep:m.Sep) :
  RoundIn Fence.wide 0 PZ l fn ((tO.setIfInBounds 8 (.int .i64 a)).setIfInBounds 9 (.int .i64 b)) assign body w fun e w'=>e = .returned (.bool true)∧∃ρ' φ',RInv E W0 wi ρi φi Vi ni ρO l D r ρ' φ' m' w'∧ρ.le ρ'∧m'.Sep:=by
 have hC:=call0_ok (E:=E) hT
 subst ha hb
 refine roundIn_of_wpIn trivial ?_
 have hst:St E W0 ρ φ ((9,.int .i64 b)::(8,.int .i64 a)::e_o2) m 16 ⟨(tO.setIfInBounds 8 (.int .i64 a)).setIfInBounds 9 (.int .i64 b),[]⟩ w:=by
  have h1:ER ρ e_o2 ⟨tO,[]⟩:=hO.mono h.le
  have h2:=er_put (d:=8) (v:=.int .i64 a) (v':=.int .i64 a) h1 (by show 8<tO.size;omega) (.of_flat (.int _ _))
  have h3:=er_put (d:=9) (v:=.int .i64 b) (v':=.int .i64 b) h2 (by simp[Act.put,hsz]) (.of_flat (.int _ _))
  exact⟨h3,by simp[hsz],rfl,hsep,h.post.good⟩
 refine wpIn_seq (region_at (ro:=some l) (s:=0) hC n3 k3 h3 hst ?_)
 intro t1 w1 ρ1 φ1 ht1 _
 refine region_at (ro:=some l) (s:=0) hC n4 k4 h4 ht1.st ?_
 intro t2 w2 ρ2 φ2 ht2 _
 have i1:=(h.step ht1.post).step ht2.post
 have hr2:r.state = .ready:=by rw[hr]
 refine⟨_,run_beginRound i1.L hr2,?_⟩
 have i2:=i1.putL { r with state:=.busy } hwi
 have hst2:St E W0 ρ2 φ2 e2 m2 16 ⟨t2,[]⟩ (w2.putObj l (.loop { r with state:=.busy })):=⟨ht2.st.er,ht2.st.sz,rfl,ht2.st.sep,i2.post.good⟩
 refine wpIn_block (region_at (ro:=some l) (s:=0) hC n5 k5 h5 hst2 ?_)
 intro t3 w3 ρ3 φ3 ht3 _
 have i3:=i2.step ht3.post
 refine⟨_,_,run_endRound none i3.L,rfl,ρ3,φ3,?_,Ren.le_trans ht1.post.le (Ren.le_trans ht2.post.le ht3.post.le),ht3.st.sep⟩
 have i4:=i3.putL { { r with state:=.busy } with state:=if(none:Option Code).isNone then .ready else .done,pending:=none } hwi
 have:({ { r with state:=.busy } with state:=if(none:Option Code).isNone then .ready else .done,pending:=none }:Loop)=r:=by
  subst hr;rfl
 rw[this] at i4
 rw[this]
 exact i4
theorem opsIn_cons{F:Fence}{n:Nat}{ops:Array Oper}{Q:Exit→Act→World→Prop}{i:Nat}{rest:List Nat}{t:Array Value}{ds:List Deferred}{w:World}{o:Oper}(ho:ops[i]? = some o)(hg:o.guard=none)(hF:∀f,F.fn f)(hR:F.round=none)
  (h:o.uponIn F n PZ ⟨t,ds⟩ (wpOpsIn F n PZ ops Q rest) Q ((execOp (⟨t,ds⟩:Act).eval o).run PZ w)):wpOpsIn F n PZ ops Q (i::rest) ⟨t,ds⟩ w:=by
 simp only[wpOpsIn,ho]
 have hw:Region.wanted o (yielded ops t)=true:=by simp[Region.wanted,hg]
 rw[if_pos hw]
 refine⟨fun f _=>hF f,?_⟩
 rw[hR,Oper.semAt_none]
 exact h
theorem opsIn_val{F:Fence}{n:Nat}{ops:Array Oper}{Q:Exit→Act→World→Prop}{i:Nat}{rest:List Nat}{t:Array Value}{ds:List Deferred}{w:World}{o:Oper}{v:Value}(ho:ops[i]? = some o)(hg:o.guard=none)(hF:∀f,F.fn f)(hR:F.round=none)
  (hv:(execOp (⟨t,ds⟩:Act).eval o).run PZ w = .ok (.value v) w) (h:wpOpsIn F n PZ ops Q rest ((⟨t,ds⟩:Act).put o.dst v) w):wpOpsIn F n PZ ops Q (i::rest) ⟨t,ds⟩ w:=by
 refine opsIn_cons ho hg hF hR ?_
 rw[hv];exact h
theorem exec_move{ρ:Operand→Value}{x:Operand}{d:Option Nat}{ty:TypeId}{pos:String}{af:Array Edge}{g:Option (Nat×Bool)}{w:World}{v:Value}(h:ρ x=v):(execOp ρ ⟨d,.move x,ty,pos,af,g⟩).run PZ w = .ok (.value v) w:=by
 simp only[execOp,h]
 rfl
theorem exec_sub{ρ:Operand→Value}{x y:Operand}{d:Option Nat}{ty:TypeId}{pos:String}{af:Array Edge}{g:Option (Nat×Bool)}{w:World}{a b c:Nat}(hx:ρ x = .int .i64 (.ofNat a))(hy:ρ y = .int .i64 (.ofNat b))(hc:a=b+c)(hl:c<1000):(execOp ρ ⟨d,.binOp .sub 3 x y 3,ty,pos,af,g⟩).run PZ w = .ok (.value (.int .i64 (.ofNat c))) w:=by
 have h1:intBin .sub .i64 (.ofNat a) .i64 (.ofNat b)=some (.int .i64 (.ofNat c)):=by
  subst hc
  have:(Int.ofNat (b+c)-Int.ofNat b)=Int.ofNat c:=by simp;omega
  simp only[intBin,if_true,this]
  congr 2
  rw[wrapF_eq];exact wrapF_nat .i64 c (by show c<9223372036854775808;omega)
 have h3:binVal .sub (eqk PZ 3) (.int .i64 (.ofNat a)) (.int .i64 (.ofNat b))=some (.int .i64 (.ofNat c)):=h1
 have h2:=(binVal_sound (P:=PZ) (w:=w) (ρ:=fun _=>none) (ox:=x) (oy:=y) h3 (.of_flat (.int _ _)) (.of_flat (.int _ _))).1
 exact ok_v (by rw[hx,hy];exact h2)
theorem exec_notT{ρ:Operand→Value}{x:Operand}{d:Option Nat}{t ty:TypeId}{pos:String}{af:Array Edge}{g:Option (Nat×Bool)}{w:World}(hx:ρ x = .bool true):(execOp ρ ⟨d,.unOp .not t x,ty,pos,af,g⟩).run PZ w = .ok (.value (.bool false)) w:=by
 simp only[execOp,hx]
 rfl
theorem exec_yield{ρ:Operand→Value}{f x y:Operand}{d:Option Nat}{ts:Array TypeId}{ty:TypeId}{pos:String}{af:Array Edge}{g:Option (Nat×Bool)}{w:World}{a b:Int}{l:Nat}{r:Loop}(hf:ρ f = .func (.yield l) #[] #[])(hx:ρ x = .int .i64 a)(hy:ρ y = .int .i64 b)
  (hL:w.heap[l]? = some (.loop r)) (hp:r.params = #[8,9]):(execOp ρ ⟨d,.call ⟨.value f,#[x,y],ts⟩,ty,pos,af,g⟩).run PZ w = .ok (.round l r.fn ((r.tmps.setIfInBounds 8 (.int .i64 a)).setIfInBounds 9 (.int .i64 b)) r.assign r.body) w:=by
 have h:=run_yield (P:=PZ) (args:=#[.int .i64 a,.int .i64 b]) hL (by rw[hp];rfl)
 rw[hp,fold2] at h
 have hm:(#[x,y]:Array Operand).map ρ = #[.int .i64 a,.int .i64 b]:=by simp[hx,hy]
 simp only[execOp,resolve,hf,Deferred.ofValue,Sem.run_bind,Sem.run_pure,Result.andThen_ok,invoke,hm]
 simpa using h
theorem getD_set(t:Array Value)(d s:Nat)(v:Value):(t.setIfInBounds d v).getD s undef=if s=d then(if d<t.size then v else undef) else t.getD s undef:=by
 rw[Array.getD_eq_getD_getElem?,Array.getElem?_setIfInBounds,Array.getD_eq_getD_getElem?]
 by_cases e:d=s
 ·subst e
  simp only[if_true]
  split<;>rfl
 ·rw[if_neg e,if_neg (fun h=>e h.symm)]
theorem eval_tmp(t:Array Value)(ds:List Deferred)(s:Nat):(⟨t,ds⟩:Act).eval (.tmp s)=t.getD s undef:=rfl
theorem yield_ops{ops:Array Oper}{t:Array Value}{w:World}{Q:Exit→Act→World→Prop}{a b c:Nat}(hsz:t.size=24)(h0:t.getD 0 undef = .func (.yield l) #[] #[])(h3:t.getD 3 undef = .int .i64 (.ofNat a))(h4:t.getD 4 undef = .int .i64 (.ofNat b))(hc:b=a+c)(hl:c<1000)
  {ty0 ty1 ty2 ty3 ty4 ty5 ty6 ty7:TypeId} {p0 p1 p2 p3 p4 p5 p6:String} {f0 f1 f2 f3 f4 f5 f6:Array Edge} {ts:Array TypeId}
  (hn:ops.size=7) (o0:ops[0]? = some ⟨some 14,.move (.tmp 0),ty0,p0,f0,none⟩) (o1:ops[1]? = some ⟨some 15,.move (.tmp 3),ty1,p1,f1,none⟩) (o2:ops[2]? = some ⟨some 16,.move (.tmp 4),ty2,p2,f2,none⟩) (o3:ops[3]? = some ⟨some 17,.move (.tmp 3),ty3,p3,f3,none⟩) (o4:ops[4]? = some ⟨some 18,.binOp .sub 3 (.tmp 16) (.tmp 17) 3,ty4,p4,f4,none⟩) (o5:ops[5]? = some ⟨some 19,.call ⟨.value (.tmp 14),#[.tmp 15,.tmp 18],ts⟩,ty5,p5,f5,none⟩) (o6:ops[6]? = some ⟨some 20,.unOp .not ty7 (.tmp 19),ty6,p6,f6,none⟩)
  (hL:w.heap[l]? = some (.loop r)) (hp:r.params = #[8,9])
  (hr:RoundIn Fence.wide 0 PZ l r.fn ((r.tmps.setIfInBounds 8 (.int .i64 (.ofNat a))).setIfInBounds 9 (.int .i64 (.ofNat c))) r.assign r.body w fun e w'=>e = .returned (.bool true) ∧
   ∀t',t'.size=24→(∀s,s<14∨20<s→t'.getD s undef=t.getD s undef)→t'.getD 20 undef = .bool false→Q .normal ⟨t',[]⟩ w'):wpOpsIn Fence.wide 1 PZ ops Q (List.range ops.size) ⟨t,[]⟩ w:=by
 rw[hn]
 show wpOpsIn Fence.wide 1 PZ _ Q [0,1,2,3,4,5,6] ⟨t,[]⟩ w
 refine opsIn_val o0 rfl (fun _=>trivial) rfl (exec_move h0) ?_
 refine opsIn_val (t:=t.setIfInBounds 14 (.func (.yield l) #[] #[])) (ds:=[]) o1 rfl (fun _=>trivial) rfl (exec_move (v:=.int .i64 (.ofNat a)) (by refine(eval_tmp _ _ _).trans ?_;simp only[getD_set,Array.size_setIfInBounds,hsz,h0,h3,h4,reduceIte,Nat.reduceEqDiff,Nat.reduceLT])) ?_
 refine opsIn_val (t:=(t.setIfInBounds 14 (.func (.yield l) #[] #[])).setIfInBounds 15 (.int .i64 (.ofNat a))) (ds:=[]) o2 rfl (fun _=>trivial) rfl (exec_move (v:=.int .i64 (.ofNat b)) (by refine(eval_tmp _ _ _).trans ?_;simp only[getD_set,Array.size_setIfInBounds,hsz,h0,h3,h4,reduceIte,Nat.reduceEqDiff,Nat.reduceLT])) ?_
 refine opsIn_val (t:=((t.setIfInBounds 14 (.func (.yield l) #[] #[])).setIfInBounds 15 (.int .i64 (.ofNat a))).setIfInBounds 16 (.int .i64 (.ofNat b))) (ds:=[]) o3 rfl (fun _=>trivial) rfl (exec_move (v:=.int .i64 (.ofNat a)) (by refine(eval_tmp _ _ _).trans ?_;simp only[getD_set,Array.size_setIfInBounds,hsz,h0,h3,h4,reduceIte,Nat.reduceEqDiff,Nat.reduceLT])) ?_
 refine opsIn_val (t:=(((t.setIfInBounds 14 (.func (.yield l) #[] #[])).setIfInBounds 15 (.int .i64 (.ofNat a))).setIfInBounds 16 (.int .i64 (.ofNat b))).setIfInBounds 17 (.int .i64 (.ofNat a))) (ds:=[]) o4 rfl (fun _=>trivial) rfl
  (v:=.int .i64 (.ofNat c)) (by
   refine exec_sub (a:=b) (b:=a) ?_ ?_ hc hl
   ·refine(eval_tmp _ _ _).trans ?_;simp only[getD_set,Array.size_setIfInBounds,hsz,h0,h3,h4,reduceIte,Nat.reduceEqDiff,Nat.reduceLT]
   ·refine(eval_tmp _ _ _).trans ?_;simp only[getD_set,Array.size_setIfInBounds,hsz,h0,h3,h4,reduceIte,Nat.reduceEqDiff,Nat.reduceLT]) ?_
 show wpOpsIn Fence.wide 1 PZ ops Q [5,6] ⟨((((t.setIfInBounds 14 (.func (.yield l) #[] #[])).setIfInBounds 15 (.int .i64 (.ofNat a))).setIfInBounds 16 (.int .i64 (.ofNat b))).setIfInBounds 17 (.int .i64 (.ofNat a))).setIfInBounds 18 (.int .i64 (.ofNat c)),[]⟩ w
 have q1:(((((t.setIfInBounds 14 (.func (.yield l) #[] #[])).setIfInBounds 15 (.int .i64 (.ofNat a))).setIfInBounds 16 (.int .i64 (.ofNat b))).setIfInBounds 17 (.int .i64 (.ofNat a))).setIfInBounds 18 (.int .i64 (.ofNat c))).size=24:=by simp only[Array.size_setIfInBounds,hsz]
 have q2:(((((t.setIfInBounds 14 (.func (.yield l) #[] #[])).setIfInBounds 15 (.int .i64 (.ofNat a))).setIfInBounds 16 (.int .i64 (.ofNat b))).setIfInBounds 17 (.int .i64 (.ofNat a))).setIfInBounds 18 (.int .i64 (.ofNat c))).getD 14 undef = .func (.yield l) #[] #[]:=by simp only[getD_set,Array.size_setIfInBounds,hsz,h0,h3,h4,reduceIte,Nat.reduceEqDiff,Nat.reduceLT]
 have q3:(((((t.setIfInBounds 14 (.func (.yield l) #[] #[])).setIfInBounds 15 (.int .i64 (.ofNat a))).setIfInBounds 16 (.int .i64 (.ofNat b))).setIfInBounds 17 (.int .i64 (.ofNat a))).setIfInBounds 18 (.int .i64 (.ofNat c))).getD 15 undef = .int .i64 (.ofNat a):=by simp only[getD_set,Array.size_setIfInBounds,hsz,h0,h3,h4,reduceIte,Nat.reduceEqDiff,Nat.reduceLT]
 have q4:(((((t.setIfInBounds 14 (.func (.yield l) #[] #[])).setIfInBounds 15 (.int .i64 (.ofNat a))).setIfInBounds 16 (.int .i64 (.ofNat b))).setIfInBounds 17 (.int .i64 (.ofNat a))).setIfInBounds 18 (.int .i64 (.ofNat c))).getD 18 undef = .int .i64 (.ofNat c):=by simp only[getD_set,Array.size_setIfInBounds,hsz,h0,h3,h4,reduceIte,Nat.reduceEqDiff,Nat.reduceLT]
 have q5:∀s,s<14∨20<s→(((((t.setIfInBounds 14 (.func (.yield l) #[] #[])).setIfInBounds 15 (.int .i64 (.ofNat a))).setIfInBounds 16 (.int .i64 (.ofNat b))).setIfInBounds 17 (.int .i64 (.ofNat a))).setIfInBounds 18 (.int .i64 (.ofNat c))).getD s undef=t.getD s undef:=by
  intro s hs
  simp only[getD_set]
  repeat rw[if_neg (by omega)]
 generalize((((t.setIfInBounds 14 (.func (.yield l) #[] #[])).setIfInBounds 15 (.int .i64 (.ofNat a))).setIfInBounds 16 (.int .i64 (.ofNat b))).setIfInBounds 17 (.int .i64 (.ofNat a))).setIfInBounds 18 (.int .i64 (.ofNat c))=T at q1 q2 q3 q4 q5
 refine opsIn_cons o5 rfl (fun _=>trivial) rfl ?_
 have hx:=exec_yield (d:=some 19) (ts:=ts) (ty:=ty5) (pos:=p5) (af:=f5) (g:=none) (w:=w) (ρ:=(⟨T,[]⟩:Act).eval) (f:=.tmp 14) (x:=.tmp 15) (y:=.tmp 18) (l:=l) (r:=r) (a:=.ofNat a) (b:=.ofNat c)
  ((eval_tmp _ _ _).trans q2) ((eval_tmp _ _ _).trans q3) ((eval_tmp _ _ _).trans q4) hL hp
 rw[hx,Oper.uponIn_round]
 refine⟨fun h=>by simp[Fence.wide] at h,hr.mono ?_⟩
 rintro e w' ⟨rfl,hQ⟩
 show wpOpsIn Fence.wide 1 PZ ops Q [6] ⟨T.setIfInBounds 19 (.bool true),[]⟩ w'
 refine opsIn_val o6 rfl (fun _=>trivial) rfl (v:=.bool false) (by
   refine exec_notT ?_
   refine(eval_tmp _ _ _).trans ?_
   simp only[getD_set,q1,reduceIte,Nat.reduceEqDiff,Nat.reduceLT]) ?_
 refine hQ ((T.setIfInBounds 19 (.bool true)).setIfInBounds 20 (.bool false)) (by simp only[Array.size_setIfInBounds,q1]) ?_ (by simp only[getD_set,Array.size_setIfInBounds,q1,reduceIte,Nat.reduceEqDiff,Nat.reduceLT])
 intro s hs
 rw[← q5 s hs]
 simp only[getD_set]
 repeat rw[if_neg (by omega)]
theorem er_same{ρ:Ren}{env:List (Nat×Value)}{t t':Array Value}(h:ER ρ env ⟨t,[]⟩)(hs:∀s v,look s env=some v→t'.getD s undef=t.getD s undef):ER ρ env ⟨t',[]⟩:=fun s v e=>by
 show VR ρ v (t'.getD s undef)
 rw[hs s v e];exact h s v e
def keysB(env:List (Nat×Value)):Bool:=env.all fun x=>Nat.blt x.1 14||Nat.blt 20 x.1
theorem keys_of:∀{env:List (Nat×Value)},keysB env=true→∀s v,look s env=some v→s<14∨20<s
 |[],_,s,v,h=>by simp[look] at h
 |x::r,hk,s,v,h=>by
  simp only[keysB,List.all_cons,Bool.and_eq_true,Bool.or_eq_true] at hk
  rw[zC] at h
  split at h
  ·rename_i e
   subst e
   rcases hk.1 with h|h
   ·left;rw[blt_iff] at h;simpa using h
   ·right;rw[blt_iff] at h;simpa using h
  ·exact keys_of (env:=r) hk.2 s v h
end
end Go.AI
/- millpondlaw02.rows at the chapter's example: the iterator, the loop, the contract. -/
namespace Go.AI
open Go.Proofs
section
variable {E:Ext}{W0:World}{wi:World}{ρi ρO:Ren}{φi:Foot}{Vi:View E}{ni l D:Nat}{r:Loop}
theorem _root_.Go.AI.Ren.le.trans'{a b c:Ren}(h:a.le b)(h':b.le c):a.le c:=Ren.le_trans h h'
theorem sep_nil{X:Type}(t:List (Nat×AObj X))(n:Nat):(⟨[],t,n⟩:Mem X).Sep:=fun i x y h=>by simp[look] at h
theorem st_of{ρ:Ren}{φ:Foot}{m m':Mem E.X}{w w':World}{N:Nat}{env:List (Nat×Value)}{t:Array Value}{ρ':Ren}{φ':Foot}(h:St E W0 ρ φ env m N ⟨t,[]⟩ w)(hk:keysB env=true){t':Array Value}(hl:ρ.le ρ')(hsz:t'.size=N)
  (ht:∀s,s<14∨20<s→t'.getD s undef=t.getD s undef) (hs:m'.Sep) (hg:Good (E:=E) W0 ρ' φ' m'.get m'.next w'):St E W0 ρ' φ' env m' N ⟨t',[]⟩ w' :=
 ⟨er_same (h.er.mono hl) fun s v e=>ht s (keys_of hk s v e),hsz,rfl,hs,hg⟩
set_option maxHeartbeats 2000000 in
theorem calls_rows1(hT:Tabs W0)(hwi:W0.heap.size≤wi.heap.size){fn:FuncId}{assign body:Code}{tO:Array Value}{ρ:Ren}{φ:Foot}{w:World}
  (hr:r={ state:=.ready,pending:=none,fn:=fn,tmps:=tO,params:=#[8,9],assign:=assign,body:=body,defers:=D })
  (hO:ER ρO e_o2 ⟨tO,[]⟩) (hsz:tO.size=16)
  {o3 o4 o5:Array Oper} (ha:assign=(Code.region 3 o3 false).seq (Code.region 4 o4 false)) (hb:body=Code.block 1 (Code.region 5 o5 false))
  (n3:noDeferB o3.toList=true) (n4:noDeferB o4.toList=true) (n5:noDeferB o5.toList=true) (k3:dstB 0 o3.toList=true) (k4:dstB 0 o4.toList=true) (k5:dstB 0 o5.toList=true)
  (g3:((mkOps PZ (fun _=>true) 16 o3.toList o3.toList).bind fun il=>runOps call0 il ((9,.int .i64 (.ofNat 1))::(8,.int .i64 (.ofNat 2))::e_o2) (m_c1 (X:=E.X)))=some (e_y1a,m_y1a))
  (g4:((mkOps PZ (fun _=>true) 16 o4.toList o4.toList).bind fun il=>runOps call0 il e_y1a (m_y1a (X:=E.X)))=some (e_y1b,m_y1b))
  (g5:((mkOps PZ (fun _=>true) 16 o5.toList o5.toList).bind fun il=>runOps call0 il e_y1b (m_y1b (X:=E.X)))=some (e_y1,m_y1))
  (j3:((mkOps PZ (fun _=>true) 16 o3.toList o3.toList).bind fun il=>runOps call0 il ((9,.int .i64 (.ofNat 1))::(8,.int .i64 (.ofNat 4))::e_o2) (m_c2 (X:=E.X)))=some (e_y2a,m_y2a))
  (j4:((mkOps PZ (fun _=>true) 16 o4.toList o4.toList).bind fun il=>runOps call0 il e_y2a (m_y2a (X:=E.X)))=some (e_y2b,m_y2b))
  (j5:((mkOps PZ (fun _=>true) 16 o5.toList o5.toList).bind fun il=>runOps call0 il e_y2b (m_y2b (X:=E.X)))=some (e_y2,m_y2))
  (h:RInv E W0 wi ρi φi Vi ni ρO l D r ρ φ m_o2 w) {pb:Value} (hp:VR ρ (.pointer (some ⟨50,0,none⟩)) pb) :
  Calls PZ 276 #[.func (.yield l) #[] #[],pb] w fun e w'=>(∃v,e = .returned v)∧∃ρ' φ',RInv E W0 wi ρi φi Vi ni ρO l D r ρ' φ' m_b3 w'∧ρ.le ρ':=by
 have hC:=call0_ok (E:=E) hT
 have hrp:r.params = #[8,9]:=by rw[hr]
 have hrf:r.fn=fn:=by rw[hr]
 have hrt:r.tmps=tO:=by rw[hr]
 have hra:r.assign=assign:=by rw[hr]
 have hrb:r.body=body:=by rw[hr]
 refine calls_of_wp Tryz.func276 rfl ?_
 rw[Tryz.ntmps276]
 have hst:St E W0 ρ φ [(1,.pointer (some ⟨50,0,none⟩))] m_o2 24 ⟨#[.func (.yield l) #[] #[],pb]++Array.replicate (24-(#[.func (.yield l) #[] #[],pb]:Array Value).size) undef,[]⟩ w:=by
  refine⟨?_,by simp,rfl,sep_nil _ _,h.post.good⟩
  intro s v hs
  rw[zC] at hs
  split at hs
  ·rename_i e
   simp only at e;subst e
   injection hs with hs;subst hs
   have h1:(#[.func (.yield l) #[] #[],pb]++Array.replicate (24-(#[.func (.yield l) #[] #[],pb]:Array Value).size) undef:Array Value).getD 1 undef=pb:=by simp
   rw[h1]
   exact hp
  ·simp[look] at hs
 have hy:(#[.func (.yield l) #[] #[],pb]++Array.replicate (24-(#[.func (.yield l) #[] #[],pb]:Array Value).size) undef:Array Value).getD 0 undef = .func (.yield l) #[] #[]:=by simp
 generalize(#[.func (.yield l) #[] #[],pb]++Array.replicate (24-(#[.func (.yield l) #[] #[],pb]:Array Value).size) undef:Array Value)=t0 at hst hy
 refine wp_seq (wpIn_wide.1 (region_at (ro:=none) (n:=1) (N:=24) (s:=0) (env':=e_a0) (m':=m_a0) hC (by kernel_rfl) (by kernel_rfl) (by kernel_rfl) hst ?_))
 intro t1 w1 ρ1 φ1 ht1 k1
 have hy1:=k1.trans hy
 have i1:=h.step ht1.post
 refine wp_block (wp_loop_rounds 3 ?_)
 rw[rounds_succ]
 -- the first round
 refine wp_seq (wp_seq (wpIn_wide.1 (region_at (ro:=none) (n:=1) (N:=24) (s:=0) (env':=e_b1) (m':=m_b1) hC (by kernel_rfl) (by kernel_rfl) (by kernel_rfl) ht1.st ?_)))
 intro t2 w2 ρ2 φ2 ht2 k2
 have hy2:=k2.trans hy1
 have i2:=i1.step ht2.post
 refine wp_cond_true (a:=⟨t2,[]⟩) (c:=.tmp 10) ((ht2.st.er 10 (.bool true) (by kernel_rfl)).bool_inv) (wp_skip ?_)
 refine wp_block (wp_seq (wpIn_wide.1 (region_at (ro:=none) (n:=1) (N:=24) (s:=0) (env':=e_c1) (m':=m_c1) hC (by kernel_rfl) (by kernel_rfl) (by kernel_rfl) ht2.st ?_)))
 intro t3 w3 ρ3 φ3 ht3 k3'
 have hy3:=k3'.trans hy2
 have i3:=i2.step ht3.post
 refine wp_seq (wp_seq (wpIn_wide.1 (wpIn_region (F:=Fence.wide) (n:=1) ?_)))
 refine yield_ops (r:=r) (l:=l) (a:=2) (b:=3) (c:=1) ht3.st.sz hy3 ((ht3.st.er 3 (.int .i64 (.ofNat 2)) (by kernel_rfl)).int_inv) ((ht3.st.er 4 (.int .i64 (.ofNat 3)) (by kernel_rfl)).int_inv) rfl (by decide) rfl rfl rfl rfl rfl rfl rfl rfl i3.L hrp ?_
 rw[hrf,hrt,hra,hrb]
 refine(round_ok (m':=m_y1) hT hwi hr hO hsz ha hb n3 n4 n5 k3 k4 k5 g3 g4 g5 i3 (sep_nil _ _)).mono ?_
 rintro e w4 ⟨rfl,ρ4,φ4,i4,l4,s4⟩
 refine⟨rfl,fun t4 hz4 hk4 hb4=>?_⟩
 have hst4:=st_of ht3.st (by kernel_rfl) l4 hz4 hk4 s4 i4.post.good
 have hy4:t4.getD 0 undef = .func (.yield l) #[] #[]:=(hk4 0 (by omega)).trans hy3
 refine wp_cond_false (a:=⟨t4,[]⟩) (c:=.tmp 20) hb4 (wp_skip ?_)
 refine wpIn_wide.1 (region_at (ro:=none) (n:=1) (N:=24) (s:=0) (env':=e_d1) (m':=m_d1) hC (by kernel_rfl) (by kernel_rfl) (by kernel_rfl) hst4 ?_)
 intro t5 w5 ρ5 φ5 ht5 k5'
 have hy5:=k5'.trans hy4
 have i5:=i4.step ht5.post
 show Code.rounds PZ _ _ 2 ⟨t5,[]⟩ w5
 rw[rounds_succ]
 -- the second round
 refine wp_seq (wp_seq (wpIn_wide.1 (region_at (ro:=none) (n:=1) (N:=24) (s:=0) (env':=e_b2) (m':=m_b2) hC (by kernel_rfl) (by kernel_rfl) (by kernel_rfl) ht5.st ?_)))
 intro t6 w6 ρ6 φ6 ht6 k6
 have hy6:=k6.trans hy5
 have i6:=i5.step ht6.post
 refine wp_cond_true (a:=⟨t6,[]⟩) (c:=.tmp 10) ((ht6.st.er 10 (.bool true) (by kernel_rfl)).bool_inv) (wp_skip ?_)
 refine wp_block (wp_seq (wpIn_wide.1 (region_at (ro:=none) (n:=1) (N:=24) (s:=0) (env':=e_c2) (m':=m_c2) hC (by kernel_rfl) (by kernel_rfl) (by kernel_rfl) ht6.st ?_)))
 intro t7 w7 ρ7 φ7 ht7 k7
 have hy7:=k7.trans hy6
 have i7:=i6.step ht7.post
 refine wp_seq (wp_seq (wpIn_wide.1 (wpIn_region (F:=Fence.wide) (n:=1) ?_)))
 refine yield_ops (r:=r) (l:=l) (a:=4) (b:=5) (c:=1) ht7.st.sz hy7 ((ht7.st.er 3 (.int .i64 (.ofNat 4)) (by kernel_rfl)).int_inv) ((ht7.st.er 4 (.int .i64 (.ofNat 5)) (by kernel_rfl)).int_inv) rfl (by decide) rfl rfl rfl rfl rfl rfl rfl rfl i7.L hrp ?_
 rw[hrf,hrt,hra,hrb]
 refine(round_ok (m':=m_y2) hT hwi hr hO hsz ha hb n3 n4 n5 k3 k4 k5 j3 j4 j5 i7 (sep_nil _ _)).mono ?_
 rintro e w8 ⟨rfl,ρ8,φ8,i8,l8,s8⟩
 refine⟨rfl,fun t8 hz8 hk8 hb8=>?_⟩
 have hst8:=st_of ht7.st (by kernel_rfl) l8 hz8 hk8 s8 i8.post.good
 refine wp_cond_false (a:=⟨t8,[]⟩) (c:=.tmp 20) hb8 (wp_skip ?_)
 refine wpIn_wide.1 (region_at (ro:=none) (n:=1) (N:=24) (s:=0) (env':=e_d2) (m':=m_d2) hC (by kernel_rfl) (by kernel_rfl) (by kernel_rfl) hst8 ?_)
 intro t9 w9 ρ9 φ9 ht9 _
 have i9:=i8.step ht9.post
 show Code.rounds PZ _ _ 1 ⟨t9,[]⟩ w9
 rw[rounds_succ]
 -- the end
 refine wp_seq (wp_seq (wpIn_wide.1 (region_at (ro:=none) (n:=1) (N:=24) (s:=0) (env':=e_b3) (m':=m_b3) hC (by kernel_rfl) (by kernel_rfl) (by kernel_rfl) ht9.st ?_)))
 intro ta wa ρa φa hta _
 have ia:=i9.step hta.post
 refine wp_cond_false (a:=⟨ta,[]⟩) (c:=.tmp 10) ((hta.st.er 10 (.bool false) (by kernel_rfl)).bool_inv) (wp_exit ?_)
 refine⟨rfl,_,results_none Tryz.results276 _ _ _,⟨_,rfl⟩,ρa,φa,ia,?_⟩
 exact ht1.post.le.trans' (ht2.post.le.trans' (ht3.post.le.trans' (l4.trans' (ht5.post.le.trans' (ht6.post.le.trans' (ht7.post.le.trans' (l8.trans' (ht9.post.le.trans' hta.post.le))))))))
theorem heap_alloc'{w:World}(o:Obj){c:Nat}(hc:c<w.heap.size):(w.alloc o).heap[c]? = w.heap[c]? := by
 show(w.heap.push o)[c]? = _
 rw[Array.getElem?_push_lt hc,Array.getElem?_eq_getElem hc]
theorem Post.beyond{ρ ρ':Ren}{φ φ':Foot}{V V':View E}{n n':Nat}{w w1 w2:World}(p:Post W0 ρ φ V n w ρ' φ' V' n' w1)(hD:∀i o c,V' i=some o→(φ' i).2 c→w2.heap[c]? = w1.heap[c]?)(hsz:w1.heap.size≤w2.heap.size)(hb:∀b,b<w.heap.size→w2.heap[b]? = w1.heap[b]?)
  (hw:W0.heap.size≤w.heap.size) (ho:w2.os=w1.os) (hp:w2.output=w1.output):Post W0 ρ φ V n w ρ' φ' V' n' w2 :=
 ⟨p.good.beyond hD hsz (fun b h=>hb b (by omega)) ho hp,p.le,p.nle,Nat.le_trans p.sz hsz,fun c hc hF=>(hb c hc).trans (p.keep c hc hF),p.fF,p.fD,p.ids,p.old⟩
def setV:Value:=.agg ⟨[.int .i64 (.ofNat 10),.slice (some ⟨31,0,none⟩) 1 1]⟩
def T0{X:Type}:List (Nat×AObj X):=[(31,.grown 1 28 [.int .u64 (.ofNat 20)])]
theorem fun_inv{ρ:Ren}{f i o:Nat}{v:Value}(h:VR ρ (.func (.func f) #[] ⟨[.pointer (some ⟨i,o,none⟩)]⟩) v):∃b,v = .func (.func f) #[] #[.pointer (some ⟨b,o,none⟩)]∧VR ρ (.pointer (some ⟨i,o,none⟩)) (.pointer (some ⟨b,o,none⟩)):=by
 cases h with|x h=>cases h with|flat h =>
  generalize hc:(⟨[.pointer (some ⟨i,o,none⟩)]⟩:Array Value)=cs at h
  cases h with
  |fn k h =>
   rename_i xs ys
   cases h with
   |nil=>simp at hc
   |cons h1 h2 =>
    cases h2 with
    |cons _ _=>simp at hc
    |nil =>
     cases h1 with
     |mk hr =>
      simp only[List.map_cons,List.map_nil,Array.mk.injEq,List.cons.injEq,Value.pointer.injEq,zI,Addr.mk.injEq,and_true] at hc
      obtain⟨rfl,rfl⟩:=hc
      exact⟨_,rfl,.of_flat (.ptr hr)⟩
set_option maxHeartbeats 2000000 in
theorem rows_range(hT:Tabs W0){ρ:Ren}{φ:Foot}{w w3:World}(g:Good (E:=E) W0 ρ φ Vi ni w){t3:Array Value}{ρ3:Ren}{φ3:Foot}(hp3:Post (E:=E) W0 ρ φ Vi ni w ρ3 φ3 (m_o2 (X:=E.X)).get (m_o2 (X:=E.X)).next w3)(hE:ER ρ3 e_o2 ⟨t3,[]⟩)(hsz:t3.size=16)
  {assign body:Code} {Q:Exit→Act→World→Prop}
  {o3 o4 o5:Array Oper} (ha:assign=(Code.region 3 o3 false).seq (Code.region 4 o4 false)) (hb:body=Code.block 1 (Code.region 5 o5 false))
  (n3:noDeferB o3.toList=true) (n4:noDeferB o4.toList=true) (n5:noDeferB o5.toList=true) (k3:dstB 0 o3.toList=true) (k4:dstB 0 o4.toList=true) (k5:dstB 0 o5.toList=true)
  (g3:((mkOps PZ (fun _=>true) 16 o3.toList o3.toList).bind fun il=>runOps call0 il ((9,.int .i64 (.ofNat 1))::(8,.int .i64 (.ofNat 2))::e_o2) (m_c1 (X:=E.X)))=some (e_y1a,m_y1a))
  (g4:((mkOps PZ (fun _=>true) 16 o4.toList o4.toList).bind fun il=>runOps call0 il e_y1a (m_y1a (X:=E.X)))=some (e_y1b,m_y1b))
  (g5:((mkOps PZ (fun _=>true) 16 o5.toList o5.toList).bind fun il=>runOps call0 il e_y1b (m_y1b (X:=E.X)))=some (e_y1,m_y1))
  (j3:((mkOps PZ (fun _=>true) 16 o3.toList o3.toList).bind fun il=>runOps call0 il ((9,.int .i64 (.ofNat 1))::(8,.int .i64 (.ofNat 4))::e_o2) (m_c2 (X:=E.X)))=some (e_y2a,m_y2a))
  (j4:((mkOps PZ (fun _=>true) 16 o4.toList o4.toList).bind fun il=>runOps call0 il e_y2a (m_y2a (X:=E.X)))=some (e_y2b,m_y2b))
  (j5:((mkOps PZ (fun _=>true) 16 o5.toList o5.toList).bind fun il=>runOps call0 il e_y2b (m_y2b (X:=E.X)))=some (e_y2,m_y2))
  (hQ:∀r w4 ρ4 φ4,RInv E W0 w ρ φ Vi ni ρ3 (w3.heap.size+1) w3.heap.size r ρ4 φ4 m_b3 w4→ρ3.le ρ4→Q .normal ⟨t3,[{ target:=.collected w3.heap.size,args:=#[] }]⟩ w4) :
  (Code.rangeFunc (.tmp 7) #[8,9] assign body).wpIn Fence.wide 2 PZ Q ⟨t3,[]⟩ w3:=by
 refine wpIn_rangeFunc ?_
 intro fn _
 obtain⟨b,hfv,hpb⟩:=fun_inv (hE 7 _ (by kernel_rfl))
 obtain⟨rec,hrec⟩:∃rec:Loop,rec={ state:=.ready,pending:=none,fn:=fn,tmps:=t3,params:=#[8,9],assign:=assign,body:=body,defers:=w3.heap.size }:=⟨_,rfl⟩
 obtain⟨W1,hW1⟩:∃W1,W1=(w3.alloc (.deferred (some []))).alloc (.loop rec):=⟨_,rfl⟩
 have hs1:W1.heap.size=w3.heap.size+2:=by rw[hW1];simp
 have hold:∀c,c<w3.heap.size→W1.heap[c]? = w3.heap[c]? := fun c hc=>by
  rw[hW1];exact(heap_alloc' _ (by simp;omega)).trans (heap_alloc' _ hc)
 have hw0:=g.size
 have hsz3:=hp3.sz
 have hp4:=Post.beyond (w2:=W1) hp3 (fun i o c hi hc=>hold c (hp3.good.lts i o c hi hc)) (by omega) (fun c hc=>hold c (by omega)) hw0 (by rw[hW1];rfl) (by rw[hW1];rfl)
 have hL1:W1.heap[w3.heap.size+1]? = some (.loop rec):=by
  rw[hW1];have:=World.alloc_heap_new (w3.alloc (.deferred (some []))) (.loop rec);rwa [World.size_alloc] at this
 have hK1:W1.heap[w3.heap.size]? = some (.deferred (some [])):=by
  rw[hW1];exact(heap_alloc' _ (by simp)).trans (World.alloc_heap_new w3 _)
 have inv:RInv E W0 w ρ φ Vi ni ρ3 (w3.heap.size+1) w3.heap.size rec ρ3 φ3 m_o2 W1:=by
  refine⟨hp4,Ren.le_refl _,⟨by omega,by omega,fun i o hi hc=>?_⟩,⟨by omega,by omega,fun i o hi hc=>?_⟩,by omega,hL1,hK1⟩
  ·have:=hp3.good.lts i o _ hi hc;omega
  ·have:=hp3.good.lts i o _ hi hc;omega
 refine⟨w3.heap.size+1,[{ target:=.collected w3.heap.size,args:=#[] }],W1,{ target:=.fn (.func 276) #[.pointer (some ⟨b,0,none⟩)],args:=#[.func (.yield (w3.heap.size+1)) #[] #[]] },W1,276,
  #[.func (.yield (w3.heap.size+1)) #[] #[]] ++ #[.pointer (some ⟨b,0,none⟩)],W1,?_,?_,?_,?_,fun h=>by simp[Fence.wide] at h,?_⟩
 ·rw[hW1,hrec];exact run_enterLoop_outer _ _ _ _ _
 ·have h7:(⟨t3,[]⟩:Act).eval (.tmp 7) = .func (.func 276) #[] #[.pointer (some ⟨b,0,none⟩)]:=hfv
  simp only[resolve,h7,Deferred.ofValue,Sem.run_bind,Sem.run_pure,Result.andThen_ok]
  simp[Act.eval]
 ·intro f' _;trivial
 ·have hn:(Tryz.f276.name == "runtime.NumGoroutine")=false:=by kernel_rfl
  simp only[invoke,callFunc,Sem.run_bind,run_program,Result.andThen_ok,Tryz.func276,hn,Bool.false_eq_true,if_false]
  rfl
 ·refine callsIn_wide.2 (calls_mono (calls_rows1 hT hw0 hrec hE hsz ha hb n3 n4 n5 k3 k4 k5 g3 g4 g5 j3 j4 j5 inv hpb) ?_)
  rintro e w4 ⟨⟨v,rfl⟩,ρ4,φ4,i4,l4⟩
  have hnb:rec.state≠.busy:=by rw[hrec];simp
  have hpn:rec.pending=none:=by rw[hrec]
  refine⟨none,_,by rw[← hpn];exact run_endLoop i4.L hnb,?_⟩
  exact hQ _ _ ρ4 φ4 (i4.putL _ hw0) l4
set_option maxHeartbeats 2000000 in
theorem calls_rows(hT:Tabs W0){ρ:Ren}{φ:Foot}{w:World}(g:Good (E:=E) W0 ρ φ (fun i=>look i T0) 48 w){v':Value}(hv:VR ρ setV v') :
  Calls PZ 264 #[v'] w fun e w'=>∃v1 ρ' φ',e = .returned v1∧VR ρ' (.slice (some ⟨62,0,none⟩) 4 4) v1∧Post (E:=E) W0 ρ φ (fun i=>look i T0) 48 w ρ' φ' (fun i=>look i (m_z (X:=E.X)).tbl) 65 w':=by
 have hC:=call0_ok (E:=E) hT
 refine callsIn_wide.1 (callsIn_of_wp_marks (F:=Fence.wide) (n:=2) Tryz.func264 rfl trivial ?_)
 rw[Tryz.ntmps264]
 have hst:St E W0 ρ φ [(0,setV)] ⟨[],T0,48⟩ 16 ⟨#[v']++Array.replicate (16-(#[v']:Array Value).size) undef,[]⟩ w:=by
  refine⟨?_,by simp,rfl,sep_nil _ _,g⟩
  intro s v hs
  rw[zC] at hs
  split at hs
  ·rename_i e
   simp only at e;subst e
   injection hs with hs;subst hs
   have h1:(#[v']++Array.replicate (16-(#[v']:Array Value).size) undef:Array Value).getD 0 undef=v':=by simp
   rw[h1]
   exact hv
  ·simp[look] at hs
 generalize(#[v']++Array.replicate (16-(#[v']:Array Value).size) undef:Array Value)=t0 at hst
 refine wpIn_seq (region_at (ro:=none) (N:=16) (s:=3) (env':=e_o0) (m':=m_o0) hC (by kernel_rfl) (by kernel_rfl) (by kernel_rfl) hst ?_)
 intro t1 w1 ρ1 φ1 ht1 _
 refine wpIn_seq (region_at (ro:=none) (N:=16) (s:=0) (env':=e_o1) (m':=m_o1) hC (by kernel_rfl) (by kernel_rfl) (by kernel_rfl) ht1.st ?_)
 intro t2 w2 ρ2 φ2 ht2 _
 refine wpIn_seq (wpIn_seq (region_at (ro:=none) (N:=16) (s:=0) (env':=e_o2) (m':=m_o2) hC (by kernel_rfl) (by kernel_rfl) (by kernel_rfl) ht2.st ?_))
 intro t3 w3 ρ3 φ3 ht3 _
 have hw0:=g.size
 refine wpIn_block (rows_range hT g ((ht1.post.trans ht2.post).trans ht3.post) ht3.st.er ht3.st.sz rfl rfl (by kernel_rfl) (by kernel_rfl) (by kernel_rfl) (by kernel_rfl) (by kernel_rfl) (by kernel_rfl) (by kernel_rfl) (by kernel_rfl) (by kernel_rfl) (by kernel_rfl) (by kernel_rfl) (by kernel_rfl) ?_)
 intro r w5 ρ4 φ4 i5 l4
 have hst5:St E W0 ρ4 φ4 e_o2 m_b3 16 ⟨t3,[]⟩ w5:=⟨ht3.st.er.mono l4,ht3.st.sz,rfl,sep_nil _ _,i5.post.good⟩
 refine wpIn_seq (region_at (ro:=none) (N:=16) (s:=0) (ds:=[{ target:=.collected w3.heap.size,args:=#[] }]) (env':=e_z) (m':=m_z) hC (by kernel_rfl) (by kernel_rfl) (by kernel_rfl) hst5 ?_)
 intro t6 w6 ρ6 φ6 ht6 _
 have i6:=i5.step ht6.post
 refine wpIn_ret ?_
 refine⟨by simp,.inl ⟨_,_,rfl,run_takeDeferred i6.K,?_⟩⟩
 refine⟨_,results_tmp Tryz.results264 _ _ _,_,ρ6,φ6,rfl,ht6.st.er 2 _ (by kernel_rfl),?_⟩
 exact Post.beyond i6.post (fun i o c hi hc=>World.putObj_heap_other fun e=>i6.oD.2.2 i o hi (e▸hc)) (by simp) (fun c hc=>World.putObj_heap_other (by have:=i6.oD.1;omega)) hw0 rfl rfl
def rowsH{X:Type}(vs:List Value)(h:Hp X):Option (Value×Hp X) :=
 match vs with
 |[.agg ⟨[.int .i64 (.ofNat 10),.slice (some ⟨31,0,none⟩) 1 1]⟩]=>match look 31 h.tbl with
  |some (.grown 1 28 [.int .u64 (.ofNat 20)])=>bif Nat.beq h.next 48 then some (.slice (some ⟨62,0,none⟩) 4 4,⟨(62,.grown 1 3 [.int .i64 (.ofNat 2),.int .i64 (.ofNat 1),.int .i64 (.ofNat 4),.int .i64 (.ofNat 1)])::h.tbl,65⟩) else none
  |_=>none
 |_=>none
theorem rows_ok(hT:Tabs W0):HookOk E PZ W0 264 rowsH:=by
 intro vs hp v h' hr ρ φ w hG vs' hvs
 unfold rowsH at hr
 split at hr
 ·split at hr
  ·rename_i h31
   cases hn:Nat.beq hp.next 48 with
   |false=>rw[hn] at hr;cases hr
   |true =>
    rw[hn,cond_true] at hr
    rw[Nat.beq_eq] at hn
    simp only[zI,Prod.mk.injEq] at hr
    obtain⟨rfl,rfl⟩:=hr
    cases hvs with
    |cons h1 h2 =>
     cases h2
     have hsub:∀i o,look i (T0 (X:=E.X))=some o→look i hp.tbl=some o:=by
      intro i o h
      simp only[T0,zC] at h
      split at h
      ·rename_i e;subst e;injection h with h;subst h;exact h31
      ·simp[look] at h
     have hG':Good (E:=E) W0 ρ φ (fun i=>look i T0) 48 w:=hG.part hsub (by omega)
     refine .inl ⟨⟨_,_,Tryz.func264,rfl,by kernel_rfl⟩,calls_mono (calls_rows hT hG' h1) ?_⟩
     rintro e w' ⟨v1,ρ',φ',rfl,hv1,hp1⟩
     rw[← hn] at hp1
     obtain⟨φ'',hb⟩:=Post.beside hG (A:=fun i=>if i=31 then none else look i hp.tbl) (B:=fun i=>look i T0) (fun i o h=>by split at h;cases h;exact h) hsub (fun i a b h h'=>by
      simp only[T0,zC] at h'
      split at h'
      ·rename_i e;rw[if_pos e] at h;cases h
      ·simp[look] at h') hp1
     refine⟨v1,ρ',φ'',rfl,hv1,?_⟩
     refine hb.part (fun i o h=>?_) (Nat.le_refl _)
     rw[zC] at h
     split at h
     ·rename_i e
      subst e
      have h62:look 62 hp.tbl=none:=by
       cases hq:look 62 hp.tbl with
       |none=>rfl
       |some o=>have:=hG.lt hq;omega
      show((if 62=31 then none else look 62 hp.tbl).or (look 62 (m_z (X:=E.X)).tbl))=some o
      rw[if_neg (by decide),h62]
      exact h
     ·by_cases e:i=31
      ·subst e
       rw[h31] at h
       injection h with h;subst h
       rfl
      ·show((if i=31 then none else look i hp.tbl).or (look i (m_z (X:=E.X)).tbl))=some o
       rw[if_neg e,h]
       rfl
  ·cases hr
 ·cases hr
end
end Go.AI
