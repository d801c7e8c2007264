/- What every statement of this seat begins with: the tables of math/bits as its row lists them; the evaluator's first state; what the world is behind the call. -/
import Derived.Test.YthoiknijhfnadaaGreatDoorKTa
import Derived.Test.YthoiknijhfnadaaGreatDoorCards
import Derived.Test.YthoiknijhfnadaaGreatDoorTie
import Derived.WalkKit
import Derived.ProofKit
import Derived.OpenShut
import Derived.Deep.DeepHandedRow
import Derived.Lib.LaidTab
import Derived.Stop.LaidErr
namespace Go.AI
structure Same(W W':World):Prop where
 os:W'.os=W.os
 out:W'.output=W.output
 old:∀c,c<W.heap.size→W'.heap[c]? = W.heap[c]?
theorem same_of{E:Ext}{W w':World}{ρ ρ':Ren}{φ φ':Foot}{V V':View E}{n n':Nat}(p:Post W ρ φ V n W ρ' φ' V' n' w'):Same W w':=⟨p.good.os,p.good.out,p.good.base⟩
theorem calls_run{E:Ext}{W:World}{call:CallFn E.X}(hC:CallsOk E PZ W call){k:Nat}(hb:∃fn c,PZ.funcs[k]? = some fn∧fn.body=some c∧(fn.name == "runtime.NumGoroutine")=false){vs vs':List Value}{h:Hp E.X}{v:Value}{h':Hp E.X}(hr:call k vs h=some (v,h'))
  {ρ:Ren} {φ:Foot} (hG:Good (E:=E) W ρ φ (fun i=>look i h.tbl) h.next W) (hv:All2 (VR ρ) vs vs') :
  Calls PZ k ⟨vs'⟩ W fun e W'=>∃v' ρ',e = .returned v'∧VR ρ' v v'∧Same W W':=by
 rcases hC k vs h v h' hr ρ φ W hG vs' hv with⟨_,hc⟩|⟨v',w',ρ',φ',hx,_,_⟩
 ·refine calls_mono hc ?_
  rintro e w' ⟨v',ρ',φ',rfl,h1,h2⟩
  exact⟨v',ρ',rfl,h1,same_of h2⟩
 ·exfalso
  obtain⟨fn,c,h1,h2,h3⟩:=hb
  have hrun:(callFunc k ⟨vs'⟩).run PZ W = .ok (.enter k ⟨vs'⟩) W:=by
   simp only[callFunc,Sem.run_bind,run_program,Result.andThen_ok,h1,h3,Bool.false_eq_true,if_false,h2,Option.isNone_some,Sem.run_pure]
  rw[hrun] at hx
  cases hx
end Go.AI
namespace Go.Proofs.YthoiknijhfnadaaGreatDoor
open Go.ChangeShapes Go.WideShapes Go.ChangeAt Go.RowKit Go.AI
theorem own:ownKnob Tryz.prog.godebug=none:=by kernel_rfl
theorem g32:Tryz.prog.globalNamed "math/bits.deBruijn32tab" = some 0:=by kernel_rfl
theorem g32t:(Tryz.prog.globals[0]?).map (·.type)=some 312:=by kernel_rfl
theorem g64:Tryz.prog.globalNamed "math/bits.deBruijn64tab" = some 1:=by kernel_rfl
theorem g64t:(Tryz.prog.globals[1]?).map (·.type)=some 313:=by kernel_rfl
theorem c32:Tryz.prog.cellsOf 312=32:=by kernel_rfl
theorem c64:Tryz.prog.cellsOf 313=64:=by kernel_rfl
theorem c5:Tryz.prog.cellsOf 5=1:=by kernel_rfl
abbrev laidL:List (String×DataW Unit):=[("math/bits.deBruijn32tab",Rows.laid_math_bits_deBruijn32tab),("math/bits.deBruijn64tab",Rows.laid_math_bits_deBruijn64tab)]
theorem tab_at{W:World}{name:String}{g:Nat}{tab:List Nat}(h:Lib.TabIs Tryz.prog W name .u8 (tab.map Int.ofNat))(hg:Tryz.prog.globalNamed name=some g):TabAt g tab W:=by
 intro j hj
 have:=h.cell hg j (by simpa using hj)
 rw[this]
 congr 2
 rw[List.getD_eq_getElem?_getD,List.getD_eq_getElem?_getD,List.getElem?_map]
 cases hq:tab[j]? with
 |none=>rfl
 |some x=>rfl
theorem lt_of_tab{W:World}{g:Nat}{tab:List Nat}(h:TabAt g tab W)(hl:0<tab.length):g<W.heap.size:=by
 have h0:=h 0 hl
 rcases Nat.lt_or_ge g W.heap.size with h1|h1
 ·exact h1
 ·simp[World.cell?,Array.getElem?_eq_none h1] at h0
theorem tabs_of{W:World}(h:laidMet Tryz.prog laidL W):Tabs W:=by
 have h1:Lib.TabIs Tryz.prog W "math/bits.deBruijn32tab" .u8 (Lib.deBruijn32tab.map Int.ofNat):=Lib.tabIs_of_head (rest:=[("math/bits.deBruijn64tab",Rows.laid_math_bits_deBruijn64tab)]) g32 g32t Tryz.underlying312 Tryz.underlying5 c5 c32 h
 have h2:Lib.TabIs Tryz.prog W "math/bits.deBruijn64tab" .u8 (Lib.deBruijn64tab.map Int.ofNat):=Lib.tabIs_of_head (rest:=[]) g64 g64t Tryz.underlying313 Tryz.underlying5 c5 c64 (laidMet.tail h)
 have t1:=tab_at h1 g32
 have t2:=tab_at h2 g64
 exact⟨t1,t2,lt_of_tab t1 (by decide),lt_of_tab t2 (by decide)⟩
theorem keptBut_same{W W':World}(h:Same W W')(may:MemPlace→Prop):W.keptBut W' may:=by
 refine⟨h.os,h.out,fun i hi=>?_⟩
 rw[h.old i hi]
 cases W.heap[i]? with
 |none=>rfl
 |some o=>cases o<;>first|rfl|exact⟨rfl,rfl,rfl,fun _ _=>rfl⟩|exact .inr ⟨rfl,rfl⟩
theorem post_same{H:Type}{enc:TypeId×Value→H}{f:Func}{s:ChangeSpec}{W W':World}{args:Array Value}{v:Value}{ds gs:List (DataW H)}{before pa pv:List MemPlace}
  (hW:DataW.Whole enc Tryz.prog f.params.toList s.vars false W args.toList ds gs before)
  (hres:∀(b:Nat) (sp:Nat→Bool) (hd:Bool),DataW.TrodAll enc Tryz.prog W' b sp hd f.resultTypes.toList (v.resultList f.resultTypes.size) (s.fn H (ds++gs)).results [])
  (hargs:∀sp:Nat→Bool,(∀p∈before,sp p.block=true)→DataW.TrodAll enc Tryz.prog W' 0 sp true f.params.toList args.toList (s.fn H (ds++gs)).args pa)
  (hvars:∀sp:Nat→Bool,(∀p∈before,sp p.block=true)→DataW.TrodVars enc Tryz.prog W' sp s.vars (s.fn H (ds++gs)).vars pv)
  (hs:Same W W'):s.post enc Tryz.prog f false true false false W args v W':=by
 have hold:∀p∈before,(fun b=>decide (b<W.heap.size)) p.block=true:=fun p hp=>by simpa using hW.lt p hp
 exact⟨ds,gs,before,[],pa,pv,hW,hres _ _ _,hargs _ hold,hvars _ hold,keptBut_same hs _,fun h=>by cases h⟩
def layTab(tab:List Nat):Obj→Obj
 | .cells _ t frozen=>.cells (tab.map fun n=>Value.int .u8 (Int.ofNat n)).toArray t frozen
 |o=>o
noncomputable def laidWorld(os:Os):World :=
 { World.holding Tryz.prog os ⟨#[],#[],[]⟩ with heap:=((World.holding Tryz.prog os ⟨#[],#[],[]⟩).heap.modify 0 (layTab Lib.deBruijn32tab)).modify 1 (layTab Lib.deBruijn64tab) }
end Go.Proofs.YthoiknijhfnadaaGreatDoor
/- Closed facts of the program, each by itself: together they would want more memory than there is. -/
namespace Go.Proofs.YthoiknijhfnadaaGreatDoor
open Go
theorem fact_stops:Tryz.prog.stops=[]:=by kernel_rfl
theorem fact_knobs:Tryz.prog.stopKnobs=[]:=by kernel_rfl
theorem fact_laid:laidOutB Tryz.prog=true:=by kernel_rfl
theorem fact_maps:mapsRowed Tryz.prog=true:=by kernel_rfl
end Go.Proofs.YthoiknijhfnadaaGreatDoor
